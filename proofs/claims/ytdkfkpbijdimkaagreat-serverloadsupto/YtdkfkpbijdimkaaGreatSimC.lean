import Derived.Test.YtdkfkpbijdimkaaGreatSimB
import Derived.Laws.StructEq
import Derived.Lib.ConvBytes
import Derived.Laws.BytesString
import Derived.ClaimOpenTies
import Derived.Leaving
import Derived.Laws.IdiomRangeMap
import Derived.Laws.Strings
set_option linter.unusedVariables false
set_option linter.unusedSimpArgs false
namespace Go.Sim
open Go
section
variable {P:Program} {ops:Array Oper} {Q:Exit→Act→World→Prop} {rest:List Oper} {F0:Fz} {n:Nat} {E:List (Nat×SV)} {L:List Res}
variable {d:Nat} {op:Op} {ty:TypeId} {pos:String} {aft:Array Edge} {s:SV}
def OkX (P:Program) (f:FuncId) (args:List SV) (L:List Res) {C:Type} (s:C→SV) (L':C→List Res):Prop:=
 ∀F w vs,SV.oks F vs args→St F w L→Calls P f vs.toArray w fun e w'=>∃y G v,e= .returned v∧F≤G∧St G w' (L' y)∧(s y).ok G v
theorem Under.callX {f:FuncId} {X:Operand} {xs:List Operand} {tys:Array TypeId} {l:List SV} {C:Type} {s:C→SV} {L':C→List Res} (hc:∀args w,(callFunc f args).run P w= .ok (.enter f args) w) (hX:ev E X=some (.raw (.func (.func f) #[] #[]))) (hx:evs E xs=some l) (ho:OkX P f l L s L')
  (hd:Nat.blt d n=true) (k:∀y,Under F0 n ((d,s y)::E) (L' y) (wpList P ops Q rest)):Under F0 n E L (wpList P ops Q (⟨some d,.call ⟨.value X,xs.toArray,tys⟩,ty,pos,aft,none⟩::rest)):=
 Under.exec rfl fun F a w h0 hE hS=>by
  have hv:=Env.evals hE hx
  have h1:=ho F w _ hv hS
  unfold Oper.wp
  simp only[execOp,resolve,hE.raw hX,Deferred.ofValue,invoke,List.map_toArray,Sem.run_bind,Sem.run_pure,Result.andThen_ok,Array.empty_append,Array.append_empty]
  rw[hc]
  exact h1.mono fun e w' ⟨y,G,v,he,hg,hS',hok⟩=>by
   subst he
   exact k y G _ _ (Fz.tr h0 hg) ((hE.mono hg).put hd hok) hS'
theorem OkX.intro {f:FuncId} {fn:Func} {c:Code} {args:List SV} {C:Type} {s:C→SV} {L':C→List Res} (m:Nat) (E0:List (Nat×SV)) (hf:P.funcs[f]? =some fn) (hb:fn.body=some c) (hn:fn.ntmps=m) (hl:Nat.ble args.length m=true) (hE:argE 0 args=E0)
  (k:∀F0,Under F0 m E0 L (c.wp P (bodyPost P fn fun e w'=>∃y G v,e= .returned v∧F0≤G∧St G w' (L' y)∧(s y).ok G v))):OkX P f args L s L':=fun F w vs hv hS=>by
 refine calls_of_wp hf hb ?_
 have hl':=cr hv
 have hle:=Nat.le_of_ble_eq_true hl
 have he:fn.ntmps - vs.toArray.size=m - args.length:=by simp[hn,hl']
 rw[he]
 have h2:args.length+(m - args.length)=m:=by omega
 have hst:=Env.start hv (m - args.length)
 rw[h2,hE] at hst
 exact k F F _ w (Fz.rf F) hst hS
inductive RetV (P:Program) (E:List (Nat×SV)):List ResultVar→List SV→Prop where
 |nil:RetV P E [] []
 |tm {u:Nat} {s:SV} {l:List ResultVar} {ss:List SV} (h:look E u=some s) (r:RetV P E l ss):RetV P E (.tmp u::l) (s::ss)
 |ce {α:Type} {K:Kd α} {u T:Nat} {x:α} {l:List ResultVar} {ss:List SV} (h:look E u=some (.ptr K x)) (hT:KT P T K) (r:RetV P E l ss):RetV P E (.cell u T::l) (.val K x::ss)
def fv:List SV→SV
 |[s]=>s
 |l=> .tup l
def resF (a:Act):ResultVar→Sem Value
 | .tmp t=>pure (a.tmps.getD t undef)
 | .cell b t=>do loadVar t (←asAddr (a.tmps.getD b undef))
theorem RetV.run {F:Fz} {a:Act} {w:World} (hE:Env F a n E) (hS:F.on w):∀{l:List ResultVar} {ss:List SV},RetV P E l ss→∃vs:List Value,(l.mapM (resF a)).run P w= .ok vs w∧SV.oks F vs ss
 |_,_,.nil=>⟨[],by simp,by simp only[SV.oks]⟩
 |_,_,.tm h r=>by
  obtain⟨v,h1,h2⟩:=hE.at_ _ _ h
  obtain⟨vs,h3,h4⟩:=RetV.run hE hS r
  refine⟨v::vs,?_,by simp only[SV.oks];exact⟨h2,h4⟩⟩
  have e:∀u,a.tmps[u]? =some v→(resF a (.tmp u)).run P w= .ok v w:=fun u hu=>by simp[resF,Array.getD_eq_getD_getElem?,hu]
  simp only[List.mapM_cons,Sem.run_bind,Sem.run_pure,e _ h1,Result.andThen_ok,h3]
 |_,_,.ce h hT r=>by
  obtain⟨v,h1,h2⟩:=hE.at_ _ _ h
  obtain⟨vs,h3,h4⟩:=RetV.run hE hS r
  simp only[SV.ok] at h2
  obtain⟨p,rfl,hp⟩:=h2
  obtain⟨u,hu,hk⟩:=ic hT hS hp
  refine⟨u::vs,?_,by simp only[SV.oks,SV.ok];exact⟨hk,h4⟩⟩
  have e:∀u' T,a.tmps[u']? =some (.pointer (some p))→(loadVar T p).run P w= .ok u w→(resF a (.cell u' T)).run P w= .ok u w:=fun u' T hu' hl=>by simp[resF,Array.getD_eq_getD_getElem?,hu',asAddr,hl]
  simp only[List.mapM_cons,Sem.run_bind,Sem.run_pure,e _ _ h1 hu,Result.andThen_ok,h3]
theorem RetV.results {F:Fz} {a:Act} {w:World} {fn:Func} {l:List ResultVar} {ss:List SV} (hr:fn.results=l.toArray) (hE:Env F a n E) (hS:F.on w) (h:RetV P E l ss):∃v,(Go.results fn a.tmps).run P w= .ok v w∧(fv ss).ok F v:=by
 obtain⟨vs,h1,h2⟩:=RetV.run hE hS h
 have hl:=cr h2
 have he:Go.results fn a.tmps=(do let vs←fn.results.mapM (resF a);pure (if h:vs.size=1 then vs[0] else .tuple vs)):=by
  unfold Go.results
  congr 1
 have h3:(fn.results.mapM (resF a)).run P w= .ok vs.toArray w:=by
  rw[hr,List.mapM_toArray,Sem.run_map,h1];rfl
 refine⟨if h:vs.toArray.size=1 then vs.toArray[0] else .tuple vs.toArray,by rw[he];simp only[Sem.run_bind,h3,Result.andThen_ok,Sem.run_pure],?_⟩
 match vs,ss,h2 with
 |[],[],_=>simp only[fv,SV.ok];exact⟨[],by simp,by simp only[SV.oks]⟩
 |[v],[s],h2=>simp only[fv];simp only[SV.oks] at h2;simpa using h2.1
 |v::u::vs,s::t::ss,h2=>simp only[fv,SV.ok];exact⟨v::u::vs,by simp,h2⟩
 |[],_::_,h2=>simp only[SV.oks] at h2
 |_::_,[],h2=>simp only[SV.oks] at h2
 |[_],_::_::_,h2=>simp only[SV.oks] at h2;exact absurd h2.2 (by simp[SV.oks])
 |_::_::_,[_],h2=>simp only[SV.oks] at h2;exact absurd h2.2 (by simp[SV.oks])
theorem Under.rets {fn:Func} {l:List ResultVar} {ss:List SV} {L':List Res} (hr:fn.results=l.toArray) (h:RetV P E l ss) (he:fv ss=s) (hL:L=L'):Under F0 n E L (bodyPost P fn (fun e w'=>∃G v,e= .returned v∧F0≤G∧St G w' L'∧s.ok G v) .ret):=fun F a w h0 hE hS=>by
 subst he;subst hL
 obtain⟨v,h1,h2⟩:=h.results hr hE hS.on
 exact⟨hE.defers,v,h1,F,v,rfl,h0,hS,h2⟩
theorem Under.retsX {fn:Func} {l:List ResultVar} {ss:List SV} {C:Type} {s:C→SV} {L':C→List Res} (y:C) (hr:fn.results=l.toArray) (h:RetV P E l ss) (he:fv ss=s y) (hL:L=L' y):
  Under F0 n E L (bodyPost P fn (fun e w'=>∃y G v,e= .returned v∧F0≤G∧St G w' (L' y)∧(s y).ok G v) .ret):=fun F a w h0 hE hS=>by
 obtain⟨v,h1,h2⟩:=h.results hr hE hS.on
 exact⟨hE.defers,v,h1,y,F,v,rfl,h0,hL▸hS,he▸h2⟩
theorem Under.condT {X:Operand} {x y:Code} (hX:ev E X=some (.raw (.bool true))) (k:Under F0 n E L (x.wp P Q)):Under F0 n E L ((Code.cond X x y).wp P Q):=Under.conde hX (fun _=>k) (fun h=>by cases h)
theorem Under.condF {X:Operand} {x y:Code} (hX:ev E X=some (.raw (.bool false))) (k:Under F0 n E L (y.wp P Q)):Under F0 n E L ((Code.cond X x y).wp P Q):=Under.conde hX (fun h=>by cases h) (fun _=>k)
theorem gK {m d:Nat} {s:SV} {J E:List (Nat×SV)} (hj:dY J [(d,s)] E=true):∀t v,look ((d,s)::E) t=some v→look ((d,s)::J++E) t=some v:=by
 intro t v h
 rw[ay] at h
 rw[List.cons_append,ay]
 split at h
 · rename_i hk;rw[if_pos hk];exact h
 · rename_i hk
   rw[if_neg hk,c5]
   have:look [(d,s)] t=none:=by rw[ay,if_neg hk];rfl
   rw[eF hj this h];exact h
theorem Under.rfin (m:Nat) {d:Nat} {s s':SV} {E1:List (Nat×SV)} {X:Act→World→Prop} (he:s'=s) (hj:dY (E1.take m) [(d,s)] (E1.drop m)=true) (k:Under F0 n ((d,s)::E1.drop m) L X):Under F0 n ((d,s')::E1) L X:=by
 subst he
 refine Under.env (fun t v h=>?_) k
 have:=gK (m:=m) hj t v h
 rwa [List.cons_append,List.take_append_drop] at this
theorem ae.rfin (m:Nat) {F:Fz} {d:Nat} {s s':SV} {E1:List (Nat×SV)} {X:Act→Prop} (he:s'=s) (hj:dY (E1.take m) [(d,s)] (E1.drop m)=true) (k:ae F n ((d,s)::E1.drop m) X):ae F n ((d,s')::E1) X:=by
 subst he
 intro a hE
 refine k a (hE.sub fun t v h=>?_)
 have:=gK (m:=m) hj t v h
 rwa [List.cons_append,List.take_append_drop] at this
end
end Go.Sim
namespace Go.Sim
open Go
section
variable {P:Program} {ops:Array Oper} {Q:Exit→Act→World→Prop} {rest:List Oper} {F0:Fz} {n:Nat} {E:List (Nat×SV)} {L:List Res}
variable {d:Nat} {op:Op} {ty:TypeId} {pos:String} {aft:Array Edge} {s:SV}
theorem OpV.rawc {o:Oper} {v:Value} (h:∀F a,Env F a n E→∀w G,F≤G→St G w L→(execOp a.eval o).run P w= .ok (.value v) w):OpV P n E L o (.raw v):=fun F a hE=>
 ⟨v,by simp only[SV.ok],fun w ⟨G,hg,hS⟩=>by unfold Oper.quietAt;rw[h F a hE w G hg hS];exact⟨rfl,rfl⟩⟩
theorem OpV.ixO {α:Type} {K:Kd α} {T e e':TypeId} {X I:Operand} {v:Value} {xs:List α} {x:α} {q:IntKind} {i:Int} (hx:idx xs i=some x) (hT:P.underlying T=some (.slice e)) (hs:(P.info? e).map (·.size)=some K.n)
   (hX:ev E X=some (.raw v)) (hI:ev E I=some (.raw (.int q i))):OpV P n E (.own K v e' xs::L) ⟨some d,.indexAddr T X I,ty,pos,aft,none⟩ (.raw (.pointer (some ⟨ik v,0+i.toNat*K.n,none⟩))):=OpV.rawc fun F a hE w G hg hS=>by
 obtain⟨h0',h1,_⟩:=cH hx
 obtain⟨f,hf,_⟩:=hS
 have hv:=hE.raw hX
 rcases hf with⟨rfl,rfl,_⟩|⟨g,cap,cur,rfl,_⟩
 · simp at h1;omega
 · have hr:=cY (P:=P) hT hs (p:=⟨g,0,none⟩) (m:=xs.length) (c:=cap) (q:=q) h0' h1 rfl w
   simp[execOp,hv,hE.raw hI,hr,ik]
theorem OpV.lenO {α:Type} {K:Kd α} {v:Value} {e e' t:TypeId} {xs:List α} {X:Operand} (ht:P.underlying t=some (.slice e)) (hX:ev E X=some (.raw v)):
  OpV P n E (.own K v e' xs::L) ⟨some d,.call ⟨.builtin .len,#[X],#[t]⟩,ty,pos,aft,none⟩ (.raw (.int .i64 xs.length)):=OpV.rawc fun F a hE w G hg hS=>by
 obtain⟨f,hf,_⟩:=hS
 have hv:=hE.raw hX
 rcases hf with⟨rfl,rfl,_⟩|⟨g,cap,cur,rfl,_⟩<;>simp[execOp,resolve,invoke,builtin,Builtin.len_,run_underlying ht,hv,goInt]
theorem OpV.ptrNil {b:BinOp} {T u T':TypeId} {X:Operand} {p:Option Addr} (hg:P.underlying T=some (.pointer T')) (hb:b= .eql∨b= .neq) (hX:ev E X=some (.raw (.pointer p))):
   OpV P n E L ⟨some d,.binOp b T X (.const (.pointer none)) u,ty,pos,aft,none⟩ (.raw (.bool (if b= .eql then p.isNone else p.isSome))):=OpV.rawv fun F a hE w=>by
 have h2:a.eval (.const (.pointer none))= .pointer none:=rfl
 have hg':P.underlying T=some (.pointer (P.pointee T)):=by simp[Program.pointee,hg]
 rw[execOp];simp only[hE.raw hX,h2,eqGuard]
 rcases hb with rfl|rfl
 · simp[run_eql_pointer_nil w T p hg']
 · cases p<;>simp[run_neq_pointer_nil w T _ hg']
theorem OpV.nilChkP {α:Type} {K:Kd α} {X:Operand} {x:α} (hX:ev E X=some (.ptr K x)):OpV P n E L ⟨some d,.nilCheck X,ty,pos,aft,none⟩ (.ptr K x):=OpV.pure fun F a hE=>by
 have:=hE.eval hX
 have h2:=this
 simp only[SV.ok] at this
 obtain⟨p,he,hp⟩:=this
 exact⟨_,h2,fun w=>by simp[execOp,he]⟩
def CvS (F:Fz) {β γ:Type} (x:β) (x':Value→γ):List (Fld β)→List (Fld γ)→Prop
 |[],[]=>True
 |f::fs,f'::fs'=>(∀v cs,f.K.rd F cs (f.get x)→f'.K.rd F cs (f'.get (x' v)))∧CvS F x x' fs fs'
 |_,_=>False
def CvE (F:Fz) {β γ:Type} (x:β) (x':Value→γ):List (Fld β)→List (Fld γ)→Nat→Prop
 |[],_,_=>False
 |_,[],_=>False
 |f::fs,f'::fs',0=>(∀cs,f.K.rd F cs (f.get x)→∃v:Value,f'.K.rd F cs (f'.get (x' v))∧v.oneCell'=true)∧CvS F x x' fs fs'
 |f::fs,f'::fs',i+1=>(∀v cs,f.K.rd F cs (f.get x)→f'.K.rd F cs (f'.get (x' v)))∧CvE F x x' fs fs' i
theorem CvS.rd {F:Fz} {β γ:Type} {x:β} {x':Value→γ} {v:Value}:∀{fs:List (Fld β)} {fs':List (Fld γ)} {cs:List Value},CvS F x x' fs fs'→rdF F fs cs x→rdF F fs' cs (x' v)
 |[],[],_,_,h=>h
 |f::fs,f'::fs',_,⟨h1,h2⟩,⟨c,d,e,a,b⟩=>⟨c,d,e,h1 v c a,CvS.rd h2 b⟩
 |[],_::_,_,h,_=>h.elim
 |_::_,[],_,h,_=>h.elim
theorem CvE.rd {F:Fz} {β γ:Type} {x:β} {x':Value→γ}:∀{fs:List (Fld β)} {fs':List (Fld γ)} {i:Nat} {cs:List Value},CvE F x x' fs fs' i→rdF F fs cs x→∃v:Value,rdF F fs' cs (x' v)∧v.oneCell'=true
 |[],_,_,_,h,_=>h.elim
 |_::_,[],_,_,h,_=>h.elim
 |f::fs,f'::fs',0,_,⟨h1,h2⟩,⟨c,d,e,a,b⟩=>by
  obtain⟨v,h3,h4⟩:=h1 c a
  exact⟨v,⟨c,d,e,h3,CvS.rd h2 b⟩,h4⟩
 |f::fs,f'::fs',i+1,_,⟨h1,h2⟩,⟨c,d,e,a,b⟩=>by
  obtain⟨v,h3,h4⟩:=CvE.rd h2 b
  exact⟨v,⟨c,d,e,h1 v c a,h3⟩,h4⟩
theorem il {α:Type} {K:Kd α} {F:Fz} {xs:List α}:∀cs,(kSl K).rd F cs xs→∃v:Value,kRaw.rd F cs v∧v.oneCell'=true:=by
 rintro cs ⟨a,cap,rfl,r⟩
 exact⟨_,⟨rfl,rfl⟩,rfl⟩
theorem Under.rawify {β γ:Type} {fs:List (Fld β)} {fs':List (Fld γ)} {b i:Nat} {T:TypeId} {x:β} (x':Value→γ) {X:Act→World→Prop} (hc:∀F,CvE F x x' fs fs' i)
  (k:∀v:Value,v.oneCell'=true→Under F0 n E (.box (kSt fs') b T (x' v)::L) X):Under F0 n E (.box (kSt fs) b T x::L) X:=fun F a w h0 hE hS=>by
 obtain⟨f,⟨cs,hr,rfl⟩,hap,hs'⟩:=hS
 obtain⟨v,h1,h2⟩:=CvE.rd (hc F) hr
 exact k v h2 F a w h0 hE ⟨_,⟨cs,h1,rfl⟩,hap,hs'⟩
theorem gL {F:Fz} {v:Value} {x:List Int} (h:kStr.val F v x):∃s:ByteArray,v= .string s∧x=s.data.toList.map (fun b=>(b.toNat:Int)):=by
 obtain⟨cs,⟨s,rfl,hx⟩,e⟩:=h;exact⟨s,e,hx⟩
theorem iG {a b:ByteArray} (h:a.data.toList.map (fun b=>(b.toNat:Int))=b.data.toList.map (fun b=>(b.toNat:Int))):a=b:=by
 have key:∀l m:List UInt8,l.map (fun b=>(b.toNat:Int))=m.map (fun b=>(b.toNat:Int))→l=m:=by
  intro l;induction l with
  |nil=>intro m h;cases m with
   |nil=>rfl
   |cons _ _=>cases h
  |cons x l ih=>intro m h;cases m with
   |nil=>cases h
   |cons y m=>
    simp only[List.map_cons,List.cons.injEq] at h
    rw[ih m h.2,UInt8.toNat_inj.1 (by omega:x.toNat=y.toNat)]
 have:=key _ _ h
 cases a;cases b;simp only[ByteArray.mk.injEq] at*;exact Array.toList_inj.1 this
end
end Go.Sim
namespace Go.Sim
open Go
def bZ:List Oper→List SV→List (Nat×SV)→List (Nat×SV)
 |o::l,s::sv,E=>match o.dst with
  |some d=>bZ l sv ((d,s)::E)
  |none=>bZ l sv E
 |_,_,E=>E
def iK (R:List (List Nat)) (g:List Nat) (lg:List Oper) (k t:Nat):Bool:=
 (List.range g.length).all fun q=>match lg[q]? with
  |some o=>(match o.dst with
   |some d=> !(Nat.beq d t)||(cond (Nat.blt q k) (memN (g.getD q 0) (R.getD (g.getD k 0) [])) (cond (Nat.beq q k) true (memN (g.getD k 0) (R.getD (g.getD q 0) []))))
   |none=>true)
  |none=>true
def en (l:List Oper) (D g:List Nat) (p:List (List Nat)):Bool:=
 g.all (fun i=>Nat.blt i l.length)&&g.all (fun i=> !memN i D)&&dc g&&dc ((pick l g).filterMap (·.dst))&&
 (List.range l.length).all (fun j=>memN j D||memN j g||g.all (fun i=>memN i ((cn l []).getD j [])))&&
 (List.range g.length).all fun k=>match(pick l g)[k]?,p[k]? with
  |some o,some us=> !fV o.op&&(afters o).all (fun e=>Nat.blt e l.length&&(memN e D||memN e (g.take k)))&&us.all (fun t=>iK (cn l []) g (pick l g) k t)
  |_,_=>false
section
variable {P:Program} {ops:Array Oper} {Q:Exit→Act→World→Prop} {rest:List Oper} {F0:Fz} {n:Nat} {E:List (Nat×SV)} {L:List Res}
variable {d:Nat} {op:Op} {ty:TypeId} {pos:String} {aft:Array Edge} {s:SV} {Lf:List Res→List Res}
theorem fF {l:List Oper} {D g:List Nat} {p:List (List Nat)} (h:en l D g p=true):GB l D g p:=by
 simp only[en,Bool.and_eq_true,List.all_eq_true] at h
 obtain⟨⟨⟨⟨⟨h1,h2⟩,h3⟩,h4⟩,h5⟩,h6⟩:=h
 have hlt:∀i∈g,i<l.length:=fun i hi=>by simpa[Nat.blt_eq] using h1 i hi
 refine⟨hlt,fun i hi hm=>?_,bL h3,bL h4,fun j hj=>?_,fun k i hk=>?_⟩
 · have:=h2 i hi;rw[av.2 hm] at this;cases this
 · have:=h5 j (List.mem_range.2 hj)
   simp only[Bool.or_eq_true,List.all_eq_true] at this
   rcases this with(h|h)|h
   · exact .inl (av.1 h)
   · exact .inr (.inl (av.1 h))
   · exact .inr (.inr fun i hi=>by have:=av.1 (h i hi);simpa[List.getD] using this)
 · have hkl:k<g.length:=(List.getElem?_eq_some_iff.1 hk).1
   have hil:i<l.length:=hlt i (List.mem_of_getElem? hk)
   have hpk:=cl hlt k i hk
   have ho:l[i]? =some l[i]:=by simp[hil]
   have h7:=h6 k (List.mem_range.2 hkl)
   rw[hpk,ho] at h7
   cases hp:p[k]? with
   |none=>rw[hp] at h7;cases h7
   | some us =>
     rw[hp] at h7
     simp only[Bool.and_eq_true,List.all_eq_true,Bool.not_eq_true'] at h7
     refine⟨l[i],us,ho,by rw[hpk,ho],rfl,h7.1.1,fun e he=>?_,fun t ht q j o' hq hj hd=>?_⟩
     · have:=h7.1.2 e he
       simp only[Bool.and_eq_true,Bool.or_eq_true,Nat.blt_eq] at this
       exact⟨this.1,this.2.imp av.1 av.1⟩
     · have h8:=h7.2 t ht
       simp only[iK,List.all_eq_true] at h8
       have hql:q<g.length:=(List.getElem?_eq_some_iff.1 hq).1
       have h9:=h8 q (List.mem_range.2 hql)
       rw[cl hlt q j hq,hj] at h9
       have gk:g.getD k 0=i:=by simp[List.getD,hk]
       have gq:g.getD q 0=j:=by simp[List.getD,hq]
       simp only[hd,Nat.beq_refl,Bool.not_true,Bool.false_or,gk,gq] at h9
       constructor
       · intro hlt2
         have:Nat.blt q k=true:=by simpa[Nat.blt_eq] using hlt2
         rw[this,cond_true] at h9
         simpa[List.getD] using av.1 h9
       · intro hlt2
         have hb:Nat.blt q k=false:=by
          cases hb:Nat.blt q k with
          |false=>rfl
          | true => have : q < k := by simpa [Nat.blt_eq] using hb
                    omega
         have hne:Nat.beq q k=false:=by
          cases hb:Nat.beq q k with
          |false=>rfl
          |true=>have:=Nat.eq_of_beq_eq_true hb;omega
         rw[hb,cond_false,hne,cond_false] at h9
         simpa[List.getD] using av.1 h9
theorem cy {t:Nat}:∀{l:List Oper} {sv:List SV} {E:List (Nat×SV)},(∀o∈l,o.dst≠some t)→look (bZ l sv E) t=look E t
 |[],sv,E,_=>by simp[bZ]
 |o::l,[],E,_=>by simp[bZ]
 |o::l,s::sv,E,h=>by
  have ih:=fun E'=>cy (t:=t) (l:=l) (sv:=sv) (E:=E') (fun q hq=>h q (by simp[hq]))
  have ho:=h o (by simp)
  rw[bZ]
  cases hd:o.dst with
  |none=>exact ih E
  |some d=>
   simp only[]
   rw[ih,ay,if_neg]
   intro e;rw[hd] at ho;exact ho (by rw[e])
theorem eN {t:Nat} {s:SV}:∀{l:List Oper} {sv:List SV} {E:List (Nat×SV)} {j:Nat} {o:Oper},(l.filterMap (·.dst)).Nodup→l[j]? =some o→o.dst=some t→sv[j]? =some s→look (bZ l sv E) t=some s
 |[],sv,E,j,o,_,hj,_,_=>by simp at hj
 |q::l,[],E,j,o,_,_,_,hs=>by simp at hs
 |q::l,s0::sv,E,j,o,hn,hj,ht,hs=>by
  cases j with
  |zero=>
   simp at hj hs;subst hj;subst hs
   rw[List.filterMap_cons_some ht,List.nodup_cons] at hn
   rw[bZ,ht]
   simp only[]
   rw[cy (fun x hx e=>hn.1 (List.mem_filterMap.2 ⟨x,hx,e⟩)),ay];simp
  |succ j=>
   have hn2:(l.filterMap (·.dst)).Nodup:=hn.sublist ((List.sublist_cons_self q l).filterMap _)
   rw[bZ]
   cases hd:q.dst<;>exact eN hn2 (by simpa using hj) ht (by simpa using hs)
theorem cR (hLf:∀r T,(r::Lf T).Perm (Lf (r::T))):∀(X:List Res) (T:List Res),(X++Lf T).Perm (Lf (X++T))
 |[],T=>List.Perm.refl _
 |r::X,T=>(List.Perm.cons r (cR hLf X T)).trans (hLf r _)
theorem iP (hLf:∀r T,(r::Lf T).Perm (Lf (r::T))) {X Y:List Res} (h:X.Perm Y) (T:List Res):(Lf (X++T)).Perm (Lf (Y++T)):=(cR hLf X T).symm.trans ((h.append_right _).trans (cR hLf Y T))
end
end Go.Sim
namespace Go.Sim
open Go
section
variable {P:Program} {ops:Array Oper} {Q:Exit→Act→World→Prop} {rest:List Oper} {F0:Fz} {n:Nat} {E:List (Nat×SV)} {L:List Res}
variable {d:Nat} {op:Op} {ty:TypeId} {pos:String} {aft:Array Edge} {s:SV}
theorem OpV.eqBn {T u:TypeId} {X Y:Operand} {x y:Bool} (hT:P.underlying T=some .bool) (hX:ev E X=some (.raw (.bool x))) (hY:ev E Y=some (.raw (.bool y))):
  OpV P n E L ⟨some d,.binOp .neq T X Y u,ty,pos,aft,none⟩ (.raw (.bool (x != y))):=OpV.rawv fun F a hE w=>by
 have hq:=run_equalIn_bool w 9999 T x y hT
 rw[execOp];simp only[hE.raw hX,hE.raw hY,eqGuard]
 simp[binOp,Op.equal,Op.maxDepth,hq,bne]
theorem EqK.up {α:Type} [BEq α] {T:TypeId} {K:Kd α} {dep D:Nat} (h:EqK P T K dep) (hle:Nat.ble dep D=true):EqK P T K D:=⟨fun{d F v u x y w} h1 h2=>by
 have:=Nat.le_of_ble_eq_true hle
 have e:d+D=(d+(D - dep))+dep:=by omega
 rw[e];exact h.eq h1 h2⟩
theorem EqK.str {T:TypeId} (hT:P.underlying T=some .string):EqK P T kStr 1:=⟨fun{d F v u x y w} h1 h2=>by
 obtain⟨s1,e1,rfl⟩:=gL h1
 obtain⟨s2,e2,rfl⟩:=gL h2
 subst e1;subst e2
 have hq:((s1.data.toList.map fun b=>(b.toNat:Int))==(s2.data.toList.map fun b=>(b.toNat:Int)))=(s1.toList==s2.toList):=by
  rw[Bool.eq_iff_iff,ByteArray.toList_eq,ByteArray.toList_eq];simp only[beq_iff_eq];exact⟨fun h=>by rw[iG h],fun h=>by rw[h]⟩
 rw[hq];exact run_equalIn_string w d T s1 s2 hT⟩
def EqFs (P:Program) (D:Nat) {β:Type}:List Field→List (Fld β)→Nat→(β→β→Bool)→Prop
 |[],[],_,q=>∀x y,q x y=true
 | f :: ff, k :: fs, o, q => f.name ≠ "_" ∧ f.offset = o ∧ KT P f.type k.K ∧ ∃ (i : BEq k.α), EqK P f.type k.K D ∧ ∃ q', (∀ x y, q x y = (k.get x == k.get y && q' x y)) ∧ EqFs P D ff fs (o + k.K.n) q'
 |_,_,_,_=>False
theorem f5 {β:Type} {D d:Nat} {F:Fz} {w:World} {cs ds:List Value} {x y:β}:∀{ff:List Field} {fs:List (Fld β)} {o:Nat} {q:β→β→Bool},EqFs P D ff fs o q→o+nF fs=cs.length→o+nF fs=ds.length→rdF F fs (cs.drop o) x→rdF F fs (ds.drop o) y→
  (Op.eqFields (d+D) cs.toArray ds.toArray ff).run P w= .ok (q x y) w
 |[],[],o,q,h,_,_,_,_=>by simp[Op.eqFields,h x y]
 |f::ff,k::fs,o,q,⟨h1,h2,h3,i,h4,q',h5,h6⟩,l1,l2,⟨c1,d1,e1,a1,b1⟩,⟨c2,d2,e2,a2,b2⟩=>by
  subst h2
  simp only[nF] at l1 l2
  have p1:=cI h3 cs.toArray f.offset (by simp;omega) w
  have p2:=cI h3 ds.toArray f.offset (by simp;omega) w
  have t1:(cs.drop f.offset).take k.K.n=c1:=by rw[e1,←k.K.len a1,List.take_left]
  have t2:(ds.drop f.offset).take k.K.n=c2:=by rw[e2,←k.K.len a2,List.take_left]
  simp only[t1,t2] at p1 p2
  have hq:=h4.eq (d:=d) (w:=w) ⟨c1,a1,rfl⟩ ⟨c2,a2,rfl⟩
  have e3:cs.drop (f.offset+k.K.n)=d1:=by rw[←List.drop_drop,e1,←k.K.len a1,List.drop_left]
  have e4:ds.drop (f.offset+k.K.n)=d2:=by rw[←List.drop_drop,e2,←k.K.len a2,List.drop_left]
  have ih:=f5 (cs:=cs) (ds:=ds) h6 (by omega) (by omega) (by rw[e3];exact b1) (by rw[e4];exact b2) (d:=d) (w:=w)
  rw[h5]
  simp only[Op.eqFields,if_pos h1,Sem.run_bind,p1,p2,hq,Result.andThen_ok]
  cases hxy:(k.get x==k.get y) with
  |false=>simp
  |true=>simp only[Bool.not_true,Bool.false_eq_true,if_false,Bool.true_and];exact ih
 |[],_::_,_,_,h,_,_,_,_=>h.elim
 |_::_,[],_,_,h,_,_,_,_=>h.elim
theorem EqK.st {β:Type} [BEq β] {T:TypeId} {fs:List (Fld β)} {ff:Array Field} {D:Nat} (hT:P.underlying T=some (.struct ff)) (hp:P.stoodInHeld T=false) (h:EqFs P D ff.toList fs 0 (fun x y=>x==y)):EqK P T (kSt fs) (D+1):=⟨fun{d F v u x y w} h1 h2=>by
 obtain⟨e1,r1⟩:=bU h1 rfl
 obtain⟨e2,r2⟩:=bU h2 rfl
 have hf:P.fieldsOf T=ff:=by simp[Program.fieldsOf,hT]
 rw[e1,e2,show d+(D+1)=(d+D)+1 by omega,run_equalIn_struct w (d+D) T _ _ (by rw[hf];exact hT) hp,hf]
 exact f5 h (by rw[Nat.zero_add];exact((kSt fs).len r1).symm) (by rw[Nat.zero_add];exact((kSt fs).len r2).symm) (by rw[List.drop_zero];exact r1) (by rw[List.drop_zero];exact r2)⟩
inductive CvL:List SV→List SV→Prop where
 |nil:CvL [] []
 |sm {x:SV} {l l':List SV} (r:CvL l l'):CvL (x::l) (x::l')
 |rd {α:Type} {K:Kd α} {x:α} {s0:SV} {l l':List SV} (h:rdOf s0 K x) (r:CvL l l'):CvL (s0::l) (.val K x::l')
theorem CvL.oks {F:Fz}:∀{l l':List SV} {vs:List Value},CvL l l'→SV.oks F vs l→SV.oks F vs l'
 |_,_,[],.nil,h=>h
 |_,_,_::_,.nil,h=>by simp only[SV.oks] at h
 |_,_,[],.sm r,h=>by simp only[SV.oks] at h
 |_,_,_::_,.sm r,h=>by simp only[SV.oks] at h⊢;exact⟨h.1,CvL.oks r h.2⟩
 |_,_,[],.rd q r,h=>by simp only[SV.oks] at h
 |_,_,_::_,.rd q r,h=>by simp only[SV.oks] at h⊢;exact⟨by simp only[SV.ok];exact q _ _ h.1,CvL.oks r h.2⟩
theorem Ok.cv {f:FuncId} {l l':List SV} {L L':List Res} (c:CvL l l') (h:Ok P f l' L s L'):Ok P f l L s L':=fun F w vs hv hS=>h F w vs (c.oks hv) hS
end
end Go.Sim
namespace Go.Sim
open Go
section
variable {P:Program} {ops:Array Oper} {Q:Exit→Act→World→Prop} {rest:List Oper} {F0:Fz} {n:Nat} {E:List (Nat×SV)} {L:List Res}
variable {d:Nat} {op:Op} {ty:TypeId} {pos:String} {aft:Array Edge} {s:SV}
theorem OpV.fdVI {β:Type} {fs:List (Fld β)} {T:TypeId} {X:Operand} {i m:Nat} {x:β} {k:IntKind} {get:β→Int} {tf:TypeId} (hT:fldB P T i=some (offF fs i,m+1)) (hk:KT P tf (kInt k)) (hf:fs[i]? =some ⟨kInt k,get⟩) (hX:ev E X=some (.val (kSt fs) x))
  (ht:∃ff g,P.underlying T=some (.struct ff)∧ff[i]? =some g∧g.type=tf):OpV P n E L ⟨some d,.field T X i,ty,pos,aft,none⟩ (.raw (.int k (get x))):=by
 obtain⟨ff,g,h1,h2,rfl⟩:=ht
 exact OpV.raw_of (OpV.fdV (f:=⟨kInt k,get⟩) (tf:=0) hT hf hX ⟨ff,g,h1,h2,hk⟩)
end
end Go.Sim
namespace Go.Sim
open Go
theorem dO {P:Program} (m:Machine) (w:World) (t:Trace) (h:aloneAtReturn P m w t):leavingAtReturn P m w t:=⟨h.2.1,onlyLeaving_of_quiet h.1,h.2.2⟩
def unleave (c:OpenClaim):OpenClaim:={c with leaving:=false}
theorem fb {p:Pinned} {s:OpenSpec} {c:OpenClaim} (hag:c.again=false) (hst:c.start= .entering) (hs:c.stops=[]) (hl:c.leaving=true) (h:(unleave c).holds p s):c.holds p s:=by
 obtain⟨h1,h2,h3,h4,h5,h6,h7,h8,f,fn,a1,a2,a3,a4,a5,a6,a7,a8,a9,b1,b2,b3,b4,b5,b6,b7,b8,b9,b10,b11,b12,L,c1,c2⟩:=h
 refine⟨?_,h2,h3,h4,h5,h6,h7,h8,f,fn,a1,a2,a3,a4,a5,a6,a7,a8,a9,b1,b2,b3,b4,b5,b6,b7,b8,b9,b10,b11,b12,L,c1,fun os w1 w2 H enc inj=>?_⟩
 · have:(unleave c).wf s=c.wf s:=by
    cases c;simp only at hag;subst hag;rfl
   rw[←this];exact h1
 · have h9:=c2 os w1 w2 H enc inj
   unfold OpenClaim.form at h9⊢
   have e1:(unleave c).start= .entering:=hst
   have e2:(unleave c).stops=[]:=hs
   rw[e1,e2] at h9
   rw[hst,hs]
   intro F
   refine ReturnsInOpen.mono (fun m w t h=>?_) (fun _ h=>h) (h9 F)
   have h:(unleave c).atReturn p.checked.prog m w t:=h
   unfold OpenClaim.atReturn at h⊢
   rw[hl]
   exact dO m w t h
end Go.Sim
namespace Go.Sim
open Go
section
variable {P:Program} {ops:Array Oper} {Q:Exit→Act→World→Prop} {rest:List Oper} {F0:Fz} {n:Nat} {E:List (Nat×SV)} {L:List Res}
variable {d:Nat} {op:Op} {ty:TypeId} {pos:String} {aft:Array Edge} {s:SV}
end
end Go.Sim
namespace Go.Sim
open Go
def Free {α:Type} (K:Kd α):Prop:=∀F G cs x,K.rd F cs x→K.rd G cs x
theorem eO {α:Type} {K:Kd α} (hK:Free K) {F G:Fz}:∀{xs:List α} {cs:List Value},an K F cs xs→an K G cs xs
 |[],_,h=>h
 |x::xs,cs,⟨c,d,e,h,r⟩=>⟨c,d,e,hK _ _ _ _ h,eO hK r⟩
theorem Free.int {k:IntKind}:Free (kInt k):=fun _ _ _ _ h=>h
theorem Free.raw:Free kRaw:=fun _ _ _ _ h=>h
theorem Free.arr {α:Type} {K:Kd α} {m:Nat} (h:Free K):Free (kArr m K):=fun _ _ _ _ ⟨a,b⟩=>⟨a,eO h b⟩
section
variable {β γ τ:Type} (KR:Kd γ) (KT:Kd τ) (mk:β→Value→γ) (tg:β→List τ) (TE TT:TypeId)
end
section
variable {P:Program} {ops:Array Oper} {Q:Exit→Act→World→Prop} {rest:List Oper} {F0:Fz} {n:Nat} {E:List (Nat×SV)} {L:List Res}
variable {d:Nat} {op:Op} {ty:TypeId} {pos:String} {aft:Array Edge} {s:SV}
variable {β γ τ:Type} {KR:Kd γ} {KT:Kd τ} {mk:β→Value→γ} {tg:β→List τ} {TE TT:TypeId} {v:Value} {xs:List β}
end
end Go.Sim
namespace Go.Sim
open Go
section
variable {P:Program} {ops:Array Oper} {Q:Exit→Act→World→Prop} {rest:List Oper} {F0:Fz} {n:Nat} {E:List (Nat×SV)} {L:List Res}
variable {d:Nat} {op:Op} {ty:TypeId} {pos:String} {aft:Array Edge} {s:SV}
end
end Go.Sim
namespace Go.Sim
open Go
structure Tk where
 deps:List Nat
 res:(Nat→Value)→Res
 ok:∀bs bs':Nat→Value,(∀k∈deps,bs k=bs' k)→res bs=res bs'
def tk0 (r:Res):Tk:=⟨[],fun _=>r,fun _ _ _=>rfl⟩
structure Sk where
 deps:List Nat
 sv:(Nat→Value)→SV
 ok:∀bs bs':Nat→Value,(∀k∈deps,bs k=bs' k)→sv bs=sv bs'
def sk0 (r:SV):Sk:=⟨[],fun _=>r,fun _ _ _=>rfl⟩
structure It2 where
 val:Sk
 used:List Nat
 outs:List (Nat×Tk)
 rds:List Nat:=[]
structure Tok where
 id:Nat
 prod:Option Nat
 tk:Tk
def tabF:List It2→Nat→List Tok
 |[],_=>[]
 |it::r,j=>it.outs.map (fun x=>⟨x.1,some j,x.2⟩)++tabF r (j+1)
def tabT (ini:List (Nat×Res)) (its:List It2):List Tok:=ini.map (fun x=>⟨x.1,none,tk0 x.2⟩)++tabF its 0
def bE:List Tok→Nat→Option Tok
 |[],_=>none
 |t::r,i=>cond (Nat.beq t.id i) (some t) (bE r i)
def preT (tab:List Tok):List Nat→(Nat→Value)→List Res
 |[],_=>[]
 |i::r,bs=>match bE tab i with
  |some t=>t.tk.res bs::preT tab r bs
  |none=>preT tab r bs
def cz (tab:List Tok):List Nat→(Nat→Value)→List (List Res)
 |[],_=>[[]]
 |[i],bs=>[match bE tab i with|some t=>[t.tk.res bs]|none=>[]]
 |i::r,bs=>(match bE tab i with|some t=>[t.tk.res bs]|none=>[])::cz tab r bs
def eP:List It2→Nat→Nat→Option Nat
 |[],_,_=>none
 |it::r,j,i=>cond (memN i it.used) (some j) (eP r (j+1) i)
def cp (its:List It2):List Nat:=its.flatMap (·.used)
def finT:List Tok→List Nat→(Nat→Value)→List Res
 |[],_,_=>[]
 |t::r,us,bs=>cond (memN t.id us) (finT r us bs) (t.tk.res bs::finT r us bs)
def upd (bs:Nat→Value) (k:Nat) (v:Value):Nat→Value:=fun q=>cond (Nat.beq q k) v (bs q)
theorem im (bs:Nat→Value) {k q:Nat} (v:Value) (h:q≠k):upd bs k v q=bs q:=by
 unfold upd
 cases hb:Nat.beq q k with
 |false=>rfl
 |true=>exact absurd (Nat.eq_of_beq_eq_true hb) h
def befB (l:List Oper) (g:List Nat) (k j:Nat):Bool:=Nat.blt k g.length&&memN (g.getD k 0) ((cn l []).getD (g.getD j 0) [])
def dP (l:List Oper) (g:List Nat) (tab:List Tok) (its:List It2) (us:List Nat) (k:Nat):Bool→Option Nat→List Nat→Bool
 |_,prev,[]=>match prev with
  |some c=>befB l g k c
  |none=>true
 |first,prev,i::r=>match bE tab i with
  |some t=>(cond first (match t.prod with|some q=>befB l g q k|none=>true) (match t.prod,prev with|some q,some c=>Nat.beq q c|_,_=>false))&& !memN i us&&dP l g tab its us k false (eP its 0 i) r
  |none=>false
def itB (l:List Oper) (g:List Nat) (tab:List Tok) (it:It2) (j:Nat):Bool:=
 it.used.all (fun i=>match bE tab i with
  |some t=>(match t.prod with
   |some q=>befB l g q j
   |none=>true)
  |none=>false)&&
 it.outs.all (fun x=>x.2.deps.all fun k=>Nat.beq k j||befB l g k j)&&it.val.deps.all (fun k=>Nat.beq k j||befB l g k j)
def eQ (l:List Oper) (g:List Nat) (tab:List Tok) (full:List It2):List It2→Nat→Bool
 |[],_=>true
 |it::r,j=>itB l g tab it j&&(match it.rds with|[]=>true|rs=>dP l g tab full it.used j true none rs)&&eQ l g tab full r (j+1)
def tokB (l:List Oper) (g:List Nat) (ini:List (Nat×Res)) (its:List It2):Bool:=
 dc ((tabT ini its).map (·.id))&&dc (cp its)&&eQ l g (tabT ini its) its its 0
theorem dD {l:List Oper} {g:List Nat} {tab:List Tok} {full:List It2}:∀{its:List It2} {j k:Nat} {it:It2},eQ l g tab full its j=true→its[k]? =some it→itB l g tab it (j+k)=true∧(it.rds=[]∨dP l g tab full it.used (j+k) true none it.rds=true)
 |[],_,_,_,_,h=>by simp at h
 |it0::r,j,0,it,h,e=>by
  simp at e;subst e
  simp only[eQ,Bool.and_eq_true] at h
  refine⟨h.1.1,?_⟩
  have h2:=h.1.2
  cases hr:it0.rds with
  |nil=>exact .inl rfl
  |cons x xs=>rw[hr] at h2;exact .inr h2
 |it0::r,j,k+1,it,h,e=>by
  simp only[eQ,Bool.and_eq_true] at h
  have:=dD (j:=j+1) (k:=k) h.2 (by simpa using e)
  rw[show j+(k+1)=j+1+k by omega];exact this
theorem eR {i:Nat}:∀{its:List It2} {j:Nat},eP its j i=none→∀(q:Nat) (it:It2),its[q]? =some it→i∉it.used
 |[],_,_,q,it,h=>by simp at h
 |it0::r,j,h,q,it,hq=>by
  rw[eP] at h
  cases hm:memN i it0.used with
  |true=>rw[hm] at h;cases h
  |false=>
   rw[hm,cond_false] at h
   cases q with
   |zero=>simp at hq;subst hq;exact fun hi=>by rw[av.2 hi] at hm;cases hm
   |succ q=>exact eR h q it (by simpa using hq)
theorem eS {i c:Nat}:∀{its:List It2} {j:Nat},eP its j i=some c→∃q it,c=j+q∧its[q]? =some it∧i∈it.used
 |[],_,h=>by cases h
 |it0::r,j,h=>by
  rw[eP] at h
  cases hm:memN i it0.used with
  |true=>rw[hm,cond_true] at h;cases h;exact⟨0,it0,by omega,by simp,av.1 hm⟩
  |false=>
   rw[hm,cond_false] at h
   obtain⟨q,it,h1,h2,h3⟩:=eS h
   exact⟨q+1,it,by omega,by simpa using h2,h3⟩
theorem dE {i:Nat} {t:Tok}:∀{tab:List Tok},bE tab i=some t→t∈tab∧t.id=i
 |[],h=>by cases h
 |u::r,h=>by
  rw[bE] at h
  cases hb:Nat.beq u.id i with
  |true=>rw[hb,cond_true] at h;cases h;exact⟨by simp,Nat.eq_of_beq_eq_true hb⟩
  |false=>rw[hb,cond_false] at h;have:=dE h;exact⟨by simp[this.1],this.2⟩
theorem dK {tab:List Tok} (hn:(tab.map (·.id)).Nodup) {t:Tok} (h:t∈tab):bE tab t.id=some t:=by
 induction tab with
 |nil=>cases h
 |cons u r ih=>
  rw[bE]
  rcases List.mem_cons.1 h with rfl|h
  · rw[Nat.beq_refl];rfl
  · have hne:u.id≠t.id:=fun e=>by
     simp only[List.map_cons,List.nodup_cons,List.mem_map] at hn
     exact hn.1 ⟨t,h,e.symm⟩
    have:Nat.beq u.id t.id=false:=by
     cases hb:Nat.beq u.id t.id with
     |false=>rfl
     |true=>exact absurd (Nat.eq_of_beq_eq_true hb) hne
    rw[this,cond_false]
    exact ih (List.nodup_cons.1 (by simpa using hn)).2 h
theorem iQ {tab:List Tok} (hn:(tab.map (·.id)).Nodup) {t u:Tok} (ht:t∈tab) (hu:u∈tab) (e:t.id=u.id):t=u:=by
 have h1:=dK hn ht
 have h2:=dK hn hu
 rw[e,h2] at h1;exact(Option.some.inj h1).symm
theorem cK {t:Tok}:∀{its:List It2} {j:Nat},t∈tabF its j↔∃k it x,its[k]? =some it∧x∈it.outs∧t=⟨x.1,some (j+k),x.2⟩
 |[],j=>by simp[tabF]
 |it::r,j=>by
  simp only[tabF,List.mem_append,List.mem_map,cK (its:=r) (j:=j+1)]
  constructor
  · rintro(⟨x,hx,rfl⟩|⟨k,it',x,h1,h2,rfl⟩)
    · exact⟨0,it,x,by simp,hx,rfl⟩
    · exact⟨k+1,it',x,by simpa using h1,h2,by rw[show j+(k+1)=j+1+k by omega]⟩
  · rintro⟨k,it',x,h1,h2,rfl⟩
    cases k with
    |zero=>simp at h1;subst h1;exact .inl ⟨x,h2,rfl⟩
    |succ k=>exact .inr ⟨k,it',x,by simpa using h1,h2,by rw[show j+(k+1)=j+1+k by omega]⟩
theorem f6 {us:List Nat} {bs:Nat→Value}:∀{tab:List Tok},finT tab us bs=(tab.filter (fun t=> !memN t.id us)).map (fun t=>t.tk.res bs)
 |[]=>rfl
 |t::r=>by
  rw[finT,List.filter_cons]
  cases memN t.id us<;>simp[f6 (tab:=r)]
theorem f7 {tab:List Tok} {bs:Nat→Value}:∀{us:List Nat},preT tab us bs=(us.filterMap (bE tab)).map (fun t=>t.tk.res bs)
 |[]=>rfl
 |i::r=>by
  rw[preT,List.filterMap_cons]
  cases bE tab i<;>simp[f7 (us:=r)]
theorem cS {its:List It2} {k i:Nat} {it:It2} (h:its[k]? =some it) (hi:i∈it.used):i∈cp its:=List.mem_flatMap.2 ⟨it,List.mem_of_getElem? h,hi⟩
theorem dQ:∀{its:List It2} {j k i:Nat} {it it':It2},(cp its).Nodup→its[j]? =some it→its[k]? =some it'→i∈it.used→i∈it'.used→j=k
 |[],_,_,_,_,_,_,h,_,_,_=>by simp at h
 |it0::r,j,k,i,it,it',hn,hj,hk,h1,h2=>by
  have hn':(it0.used++cp r).Nodup:=by simpa[cp] using hn
  obtain⟨n1,n2,n3⟩:=List.nodup_append.1 hn'
  cases j with
  |zero=>
   simp at hj;subst hj
   cases k with
   |zero=>rfl
   |succ k=>exact absurd rfl (n3 i h1 i (cS (by simpa using hk) h2))
  |succ j=>
   cases k with
   |zero=>simp at hk;subst hk;exact absurd rfl (n3 i h2 i (cS (by simpa using hj) h1))
   |succ k=>have e:=dQ (its:=r) (j:=j) (k:=k) n2 (by simpa using hj) (by simpa using hk) h1 h2;omega
theorem eT:∀{its:List It2} {k:Nat} {it:It2},(cp its).Nodup→its[k]? =some it→it.used.Nodup
 |[],_,_,_,h=>by simp at h
 |it0::r,k,it,hn,h=>by
  have hn':(it0.used++cp r).Nodup:=by simpa[cp] using hn
  cases k with
  |zero=>simp at h;subst h;exact(List.nodup_append.1 hn').1
  |succ k=>exact eT (List.nodup_append.1 hn').2.1 (by simpa using h)
def f8 (G:Fz) (n:Nat) (L:List Res) (k:Nat) (bs:Nat→Value) (it:It2) (dst:Option Nat):Act→World→Prop:=fun a w=>
 ∃H v,G≤H∧(match dst with|some d=>∃u,a.tmps[d]? =some u∧(it.val.sv (upd bs k v)).ok H u|none=>True)∧St H w (it.outs.map (fun x=>x.2.res (upd bs k v))++L)∧a.defers=[]
def envT:Option Nat→SV→List (Nat×SV)→List (Nat×SV)
 |some d,s,E=>(d,s)::E
 |none,_,E=>E
def seqT (P:Program) (n:Nat) (tab:List Tok) (Lf:List Res→List Res) (ops:Array Oper) (F0:Fz) (bs:Nat→Value) (K:List (Nat×SV)→Prop):Nat→List It2→List (List Nat)→List Oper→List (Nat×SV)→Prop
 |j,it::its,us::p,o::l,E=>(∀R,R∈cz tab it.rds bs→∀G T,F0≤G→Under G n (bV us E) (preT tab it.used bs++(R++Lf T)) (wpList P ops (Exit.then (f8 G n (R++Lf T) j bs it o.dst) QF) [o]))∧seqT P n tab Lf ops F0 bs K (j+1) its p l (envT o.dst (it.val.sv bs) E)
 |_,[],[],[],E=>K E
 |_,_,_,_,_=>False
section
variable {P:Program} {ops:Array Oper} {Q:Exit→Act→World→Prop} {rest:List Oper} {F0:Fz} {n:Nat} {E:List (Nat×SV)} {L:List Res}
variable {d:Nat} {op:Op} {ty:TypeId} {pos:String} {aft:Array Edge} {s:SV} {Lf:List Res→List Res} {tab:List Tok}
theorem f9 {bs:Nat→Value} {K:List (Nat×SV)→Prop}:∀{its:List It2} {p:List (List Nat)} {l:List Oper} {E:List (Nat×SV)} {j:Nat},seqT P n tab Lf ops F0 bs K j its p l E→
  its.length=l.length∧K (bZ l (its.map (fun it=>it.val.sv bs)) E)∧
  ∀(i:Nat) o us it,l[i]? =some o→p[i]? =some us→its[i]? =some it→∀R,R∈cz tab it.rds bs→∀G T,F0≤G→Under G n (bV us (bZ (l.take i) ((its.take i).map (fun it=>it.val.sv bs)) E)) (preT tab it.used bs++(R++Lf T)) (wpList P ops (Exit.then (f8 G n (R++Lf T) (j+i) bs it o.dst) QF) [o])
 |[],[],[],E,j,h=>⟨rfl,by simpa[bZ,seqT] using h,fun i o us it hi=>by simp at hi⟩
 |it::its,us::p,o::l,E,j,h=>by
  obtain⟨h1,h2⟩:=h
  obtain⟨e1,e2,e3⟩:=f9 h2
  refine⟨by simp[e1],?_,fun i q us' it' hi hp hs=>?_⟩
  · rw[List.map_cons,bZ]
    cases hd:o.dst with
    |none=>rw[hd] at e2;exact e2
    |some d=>rw[hd] at e2;exact e2
  · cases i with
    |zero=>simp at hi hp hs;subst hi;subst hp;subst hs;simpa[bZ] using h1
    |succ i=>
     have:=e3 i q us' it' (by simpa using hi) (by simpa using hp) (by simpa using hs)
     rw[List.take_succ_cons,List.take_succ_cons,List.map_cons,bZ,show j+(i+1)=j+1+i by omega]
     cases hd:o.dst with
     |none=>rw[hd] at this;exact this
     |some d=>rw[hd] at this;exact this
 |[],_::_,_,_,_,h=>by simp[seqT] at h
 |[],[],_::_,_,_,h=>by simp[seqT] at h
 |_::_,[],_,_,_,h=>by simp[seqT] at h
 |_::_,_::_,[],_,_,h=>by simp[seqT] at h
theorem ga {i k:Nat} {o:Oper} {a:Act} {w:World} {bs:Nat→Value} {it:It2} (hi:ops[i]? =some o) {G:Fz}
   (h:wpList P ops (Exit.then (f8 G n L k bs it o.dst) QF) [o] a w) (hlt:∀d,o.dst=some d→d<a.tmps.size) (hdef:a.defers=[]):
   wpOp P ops Q i (fun a' w'=>∃v x H,a'=a.put o.dst v∧G≤H∧(∀d,o.dst=some d→(it.val.sv (upd bs k x)).ok H v)∧St H w' (it.outs.map (fun y=>y.2.res (upd bs k x))++L)) a w:=by
 have fin:∀v w',f8 G n L k bs it o.dst (a.put o.dst v) w'→∃v' x H,a.put o.dst v=a.put o.dst v'∧G≤H∧(∀d,o.dst=some d→(it.val.sv (upd bs k x)).ok H v')∧St H w' (it.outs.map (fun y=>y.2.res (upd bs k x))++L):=fun v w' ⟨H,x,h1,h2,h3,_⟩=>by
   refine⟨v,x,H,rfl,h1,fun d hd=>?_,h3⟩
   rw[hd] at h2
   obtain⟨u,hu,ho⟩:=h2
   simp only[Act.put] at hu
   rw[Array.getElem?_setIfInBounds_self_of_lt (hlt d hd)] at hu
   cases hu;exact ho
 unfold wpOp
 simp only[hi]
 unfold wpList at h
 split
 · rename_i hw
   rw[if_pos hw] at h
   refine .inl ?_
   rcases h with h|⟨_,hlets⟩
   case inr=>exact absurd hlets (fun hl=>by simp[LetsOut,QF,Exit.then] at hl)
   unfold Oper.wp at*
   generalize (execOp a.eval o).run P w=r at*
   cases r with
   |ok nx w'=>
    cases nx<;>simp only[Oper.upon] at h⊢
    case value u=>exact fin _ _ h
    case skip=>exact fin _ _ h
    case defer dd=>
     obtain⟨H,x,h1,h2,h3,h4⟩:=h
     exfalso
     cases hd:o.dst<;>simp[Act.put,hd] at h4
    case enter f args=>
     refine Calls.mono h fun e w'' he=>?_
     cases e with
     |returned u=>exact fin _ _ he
     |panicked c=>exact he.elim
     |outgrown=>obtain⟨_,_,x⟩:=he;exact x.elim
    case row row args=>exact Rows.mono h fun u w'' he=>fin _ _ he
   |halt x w'=>
    cases x<;>simp only[Oper.upon] at h⊢<;>exact h.elim
 · rename_i hw
   rw[if_neg hw] at h
   exact fin _ _ h
def LstT (g:List Nat) (listed:Array Bool) (q:Nat):Prop:=∃i,g[q]? =some i∧listed.getD i false=true
def iT (tab:List Tok) (its:List It2) (g:List Nat) (listed:Array Bool) (t:Tok):Prop:=
 t∈tab∧(∀q,t.prod=some q→LstT g listed q)∧∀q it,its[q]? =some it→t.id∈it.used→¬LstT g listed q
structure InvT (F:Fz) (n:Nat) (tab:List Tok) (Lf:List Res→List Res) (L0:List Res) (l:List Oper) (D g:List Nat) (its:List It2) (E:List (Nat×SV)) (listed:Array Bool) (a:Act) (w:World):Prop where
 size:listed.size=l.length
 closed:∀j o,l[j]? =some o→listed.getD j false=true→∀e∈afters o,listed.getD e false=true
 dl:∀j∈D,j<l.length→listed.getD j false=true
 ex:∀j,j<l.length→listed.getD j false=true→j∈D∨j∈g
 st:∃G,∃bs:Nat→Value,∃ks:List Tok,F≤G∧St G w (Lf (ks.map (fun t=>t.tk.res bs)++L0))∧(ks.map (·.id)).Nodup∧(∀t,t∈ks↔iT tab its g listed t)∧a.defers=[]∧a.tmps.size=n∧
  (∀(k i:Nat) (o:Oper) (d:Nat) (it:It2),g[k]? =some i→l[i]? =some o→o.dst=some d→its[k]? =some it→listed.getD i false=true→∃v,a.tmps[d]? =some v∧(it.val.sv bs).ok G v)∧
  (∀(t:Nat) (s:SV),look E t=some s→(∀(i:Nat) (o:Oper),i∈g→l[i]? =some o→listed.getD i false=true→o.dst≠some t)→∃v,a.tmps[t]? =some v∧s.ok G v)
theorem bW {ks:List Tok} (h:(ks.map (·.id)).Nodup):ks.Nodup:=(List.pairwise_map.1 h).imp fun hne e=>hne (by rw[e])
set_option maxHeartbeats 1600000 in
theorem io {l:List Oper} {D g:List Nat} {p:List (List Nat)} {its:List It2} {ini:List (Nat×Res)} {F:Fz} {L0:List Res} (hLf:∀r T,(r::Lf T).Perm (Lf (r::T))) (hB:GB l D g p) (hits:its.length=(pick l g).length) (hT:tokB l g ini its=true)
  (hn:∀o∈pick l g,∀d,o.dst=some d→d<n)
  (hop:∀(bs:Nat→Value) (k:Nat) o us it,(pick l g)[k]? =some o→p[k]? =some us→its[k]? =some it→∀R,R∈cz (tabT ini its) it.rds bs→∀G T,F≤G→Under G n (bV us (bZ ((pick l g).take k) ((its.take k).map (fun it=>it.val.sv bs)) E)) (preT (tabT ini its) it.used bs++(R++Lf T)) (wpList P l.toArray (Exit.then (f8 G n (R++Lf T) k bs it o.dst) QF) [o]))
  (hfin:∀(bs:Nat→Value) G a w,F≤G→Env G a n (bZ (pick l g) (its.map (fun it=>it.val.sv bs)) E)→St G w (Lf (finT (tabT ini its) (cp its) bs++L0))→cw P Q l (g++D) a w):
  ∀(fuel:Nat) (listed:Array Bool) (a:Act) (w:World),cntF listed≤fuel→InvT F n (tabT ini its) Lf L0 l D g its E listed a w→wpAny P .any l.toArray Q fuel listed a w:=by
 have hlen:=f4 hB.lt
 simp only[tokB,Bool.and_eq_true] at hT
 obtain⟨⟨hT1,hT2⟩,hT3⟩:=hT
 replace hT1:=bL hT1
 replace hT2:=bL hT2
 have hitB:∀{k:Nat} {it:It2},its[k]? =some it→itB l g (tabT ini its) it k=true:=fun{k it} h=>by have:=(dD hT3 h).1;rwa [Nat.zero_add] at this
 have hrdB:∀{k:Nat} {it:It2},its[k]? =some it→it.rds=[]∨dP l g (tabT ini its) its it.used k true none it.rds=true:=fun{k it} h=>by have:=(dD hT3 h).2;rwa [Nat.zero_add] at this
 have befS:∀{k j:Nat},befB l g k j=true→k<g.length∧g.getD k 0∈((cn l [])[g.getD j 0]?).getD []:=fun{k j} h=>by
  simp only[befB,Bool.and_eq_true,Nat.blt_eq] at h
  exact⟨h.1,by have:=av.1 h.2;simpa[List.getD] using this⟩
 have lfp:∀{X Y:List Res},X.Perm Y→(Lf X).Perm (Lf Y):=fun{X Y} h=>by
  have:=iP hLf h []
  simpa using this
 have atEnd:∀(fuel:Nat) (listed:Array Bool) (a:Act) (w:World),cntF listed≤fuel→InvT F n (tabT ini its) Lf L0 l D g its E listed a w→(∀i∈g,listed.getD i false=true)→wpAny P .any l.toArray Q fuel listed a w:=by
  intro fuel listed a w hc inv all
  obtain⟨G,bs,ks,hg,hS,hnd,hks,hd,hsz,hA,hB'⟩:=inv.st
  have allL:∀q,q<g.length→LstT g listed q:=fun q hq=>⟨g[q],by simp[hq],all _ (List.getElem_mem hq)⟩
  have hkp:ks.Perm ((tabT ini its).filter (fun t=> !memN t.id (cp its))):=by
    refine(List.perm_ext_iff_of_nodup (bW hnd) ((bW hT1).filter _)).2 fun t=>?_
    rw[hks,List.mem_filter]
    constructor
    · rintro⟨h1,h2,h3⟩
      refine⟨h1,?_⟩
      cases hm:memN t.id (cp its) with
      |false=>rfl
      | true =>
        obtain⟨it,hit,hi⟩:=List.mem_flatMap.1 (av.1 hm)
        obtain⟨q,hq⟩:=List.mem_iff_getElem?.1 hit
        have hql:=(List.getElem?_eq_some_iff.1 hq).1
        exact absurd (allL q (by omega)) (h3 q it hq hi)
    · rintro⟨h1,h2⟩
      refine⟨h1,fun q hq=>?_,fun q it hq hi=>?_⟩
      · rcases List.mem_append.1 h1 with h|h
        · obtain⟨x,_,rfl⟩:=List.mem_map.1 h;cases hq
        · obtain⟨k,it,x,h4,h5,rfl⟩:=cK.1 h
          cases hq
          have:=(List.getElem?_eq_some_iff.1 h4).1
          exact allL _ (by omega)
      · rw[av.2 (cS hq hi)] at h2;cases h2
  have hS2:St G w (Lf (finT (tabT ini its) (cp its) bs++L0)):=hS.perm (lfp (by rw[f6];exact(hkp.map _).append_right _))
  refine hfin bs G a w hg ⟨hd,hsz,fun t s e=>?_⟩ hS2 fuel listed hc ⟨inv.size,inv.closed,fun j hj=>⟨fun h=>?_,fun h=>?_⟩⟩
  · by_cases hw:∃o∈pick l g,o.dst=some t
    · obtain⟨o,ho,hot⟩:=hw
      obtain⟨k,hk⟩:=List.mem_iff_getElem?.1 ho
      have hkl:k<(pick l g).length:=(List.getElem?_eq_some_iff.1 hk).1
      have hkg:g[k]? =some g[k]:=by
        have:k<g.length:=by omega
        simp[this]
      have hki:k<its.length:=by omega
      have hik:its[k]? =some its[k]:=by simp[hki]
      rw[eN hB.dsts hk hot (show(its.map (fun it=>it.val.sv bs))[k]? =some (its[k].val.sv bs) by simp[hki])] at e
      cases e
      have hl:=cl hB.lt k _ hkg
      exact hA k _ o t _ hkg (by rw[←hl];exact hk) hot hik (all _ (List.mem_of_getElem? hkg))
    · rw[cy (fun o ho e=>hw ⟨o,ho,e⟩)] at e
      refine hB' t s e fun i o hi hl _ e'=>hw ⟨o,?_,e'⟩
      obtain⟨k,hk⟩:=List.mem_iff_getElem?.1 hi
      have:=cl hB.lt k i hk
      exact List.mem_of_getElem? (this.trans hl)
  · rcases inv.ex j hj h with h|h
    · exact List.mem_append_right _ h
    · exact List.mem_append_left _ h
  · rcases List.mem_append.1 h with h|h
    · exact all j h
    · exact inv.dl j h hj
 intro fuel
 induction fuel with
 |zero=>
  intro listed a w hc inv
  refine atEnd 0 listed a w hc inv fun i hi=>?_
  cases hl:listed.getD i false with
  |true=>rfl
  | false =>
    exfalso
    have hlt:i<listed.size:=by have:=hB.lt i hi;have:=inv.size;omega
    have hun:listed.getD i true=false:=by simp[hlt] at hl⊢;exact hl
    have:=cJ hun;omega
 |succ fuel ih=>
  intro listed a w hc inv
  by_cases hall:∀i∈g,listed.getD i false=true
  · exact atEnd _ listed a w hc inv hall
  · have hex:∃k:Nat,∃i,g[k]? =some i∧listed.getD i false=false:=by
      refine Classical.byContradiction fun hno=>hall fun i hi=>?_
      obtain⟨k,hk⟩:=List.mem_iff_getElem?.1 hi
      cases hl:listed.getD i false with
      |true=>rfl
      |false=>exact absurd ⟨k,i,hk,hl⟩ hno
    have hready:∃i,i∈Region.ready .any l.toArray listed:=by
      obtain⟨k,i,hk,hl⟩:=hex
      induction k using Nat.strongRecOn generalizing i with
      | _ k ihk =>
        by_cases hbef:∃q,q<k∧∃j,g[q]? =some j∧listed.getD j false=false
        · obtain⟨q,hq,j,hj,hlj⟩:=hbef
          exact ihk q hq j hj hlj
        · obtain⟨o,us,ho,_,_,_,haf,_⟩:=hB.op k i hk
          have hil:i<l.length:=hB.lt i (List.mem_of_getElem? hk)
          have hlt:i<listed.size:=by have:=inv.size;omega
          refine⟨i,mem_ready.2 ⟨by simp[hlt] at hl⊢;exact hl,o,by simpa using ho,de fun e he=>?_⟩⟩
          obtain⟨h1,h2|h2⟩:=haf e he
          · exact inv.dl e h2 h1
          · obtain⟨q,hq⟩:=List.mem_iff_getElem?.1 h2
            have hqk:q<k:=by have:=(List.getElem?_eq_some_iff.1 hq).1;simp at this;omega
            rw[List.getElem?_take_of_lt hqk] at hq
            cases hle:listed.getD e false with
            |true=>rfl
            |false=>exact absurd ⟨q,hqk,e,hq,hle⟩ hbef
    refine⟨fun h0=>(by obtain⟨i,hi⟩:=hready;rw[h0] at hi;cases hi),fun i hi=>?_⟩
    obtain⟨hun,o,ho,haft⟩:=mem_ready.1 hi
    have ho':l[i]? =some o:=by simpa using ho
    have hil:i<l.length:=(List.getElem?_eq_some_iff.1 ho').1
    have hlist:=dy haft
    have hlt:i<listed.size:=by have:=inv.size;omega
    have hunf:listed.getD i false=false:=by simp[hlt] at hun⊢;exact hun
    have hiD:i∉D:=fun h=>by rw[inv.dl i h hil] at hunf;cases hunf
    have hig:i∈g:=by
      rcases hB.others i hil with h|h|h
      · exact absurd h hiD
      · exact h
      · exact absurd (fun j hj=>bo (fun j=>listed.getD j false=true) inv.closed ho' hlist j (h j hj)) hall
    obtain⟨k,hk⟩:=List.mem_iff_getElem?.1 hig
    obtain⟨o2,us,ho2,hpk,hus,hsel,haf,hwr⟩:=hB.op k i hk
    rw[ho'] at ho2;cases ho2
    have hkl:k<(pick l g).length:=(List.getElem?_eq_some_iff.1 hpk).1
    have hki:k<its.length:=by omega
    have hit:its[k]? =some its[k]:=by simp[hki]
    obtain⟨G,bs,ks,hg,hS,hnd,hks,hdf,hsz,hA,hB'⟩:=inv.st
    have hgk:g.getD k 0=i:=by simp[List.getD,hk]
    have uniq:∀q,g[q]? =some i→q=k:=fun q hq=>by
      have e1:=(List.getElem?_eq_some_iff.1 hq).2
      have e2:=(List.getElem?_eq_some_iff.1 hk).2
      exact(List.getElem_inj hB.nodup).1 (e1.trans e2.symm)
    have hkun:¬LstT g listed k:=fun⟨j,h1,h2⟩=>by rw[hk] at h1;cases h1;rw[hunf] at h2;cases h2
    have bef_lst:∀{q:Nat},befB l g q k=true→LstT g listed q:=fun{q} h=>by
      obtain⟨h1,h2⟩:=befS h
      rw[hgk] at h2
      exact⟨g.getD q 0,by simp[List.getD,h1],bo (fun j=>listed.getD j false=true) inv.closed ho' hlist _ h2⟩
    -- what hangs on a listed operation's tellings does not hang on this one
    have dep_lst:∀{q j:Nat},befB l g q j=true→LstT g listed j→LstT g listed q:=fun{q j} h ⟨j1,hj1,hl1⟩=>by
      obtain⟨h1,h2⟩:=befS h
      obtain⟨o3,_,ho3,_⟩:=hB.op j _ hj1
      have hgq:g.getD j 0=j1:=by simp[List.getD,hj1]
      rw[hgq] at h2
      exact⟨g.getD q 0,by simp[List.getD,h1],bo (fun j=>listed.getD j false=true) inv.closed ho3 (inv.closed _ o3 ho3 hl1) _ h2⟩
    have dne:∀d q j o' d',o.dst=some d→g[q]? =some j→l[j]? =some o'→o'.dst=some d'→i≠j→d≠d':=fun d q j o' d' hd hq hj hd' hji e=>by
      subst e
      have hpq:=cl hB.lt q j hq
      have:=dN hB.dsts hpk (hpq.trans hj) hd hd'
      subst this
      rw[hk] at hq;cases hq;exact hji rfl
    have hEnv:∀t s,look (bV us (bZ ((pick l g).take k) ((its.take k).map (fun it=>it.val.sv bs)) E)) t=some s→∃v,a.tmps[t]? =some v∧s.ok G v:=by
      intro t s e
      rw[dx] at e
      split at e
      · rename_i htu
        have hwt:=hwr t htu
        by_cases hw:∃q∈(pick l g).take k,q.dst=some t
        · obtain⟨o',hq,hqt⟩:=hw
          obtain⟨q,hq'⟩:=List.mem_iff_getElem?.1 hq
          have hqk:q<k:=by have:=(List.getElem?_eq_some_iff.1 hq').1;simp at this;omega
          have hpq:(pick l g)[q]? =some o':=by rw[List.getElem?_take_of_lt hqk] at hq';exact hq'
          have hgq:g[q]? =some g[q]:=by
            have:q<g.length:=by omega
            simp[this]
          have hlq:=cl hB.lt q _ hgq
          have hlo:l[g[q]]? =some o':=by rw[←hlq];exact hpq
          have hqi:q<its.length:=by omega
          have hsq:((its.take k).map (fun it=>it.val.sv bs))[q]? =some (its[q].val.sv bs):=by simp[hqi,hqk]
          have hndt:(((pick l g).take k).filterMap (·.dst)).Nodup:=hB.dsts.sublist ((List.take_sublist k _).filterMap _)
          rw[eN hndt hq' hqt hsq] at e
          cases e
          refine hA q _ o' t _ hgq hlo hqt (by simp[hqi]) ?_
          exact bo (fun j=>listed.getD j false=true) inv.closed ho' hlist _ ((hwt q _ o' hgq hlo hqt).1 hqk)
        · rw[cy (fun x hx e'=>hw ⟨x,hx,e'⟩)] at e
          refine hB' t s e fun j o' hj hlj hlisted hqt=>?_
          obtain⟨q,hq⟩:=List.mem_iff_getElem?.1 hj
          have hpq:=cl hB.lt q j hq
          have hqk:¬q<k:=fun h=>hw ⟨o',by
            have:((pick l g).take k)[q]? =some o':=by rw[List.getElem?_take_of_lt h,hpq];exact hlj
            exact List.mem_of_getElem? this,hqt⟩
          by_cases hqk2:q=k
          · subst hqk2
            rw[hk] at hq;cases hq
            rw[hunf] at hlisted;cases hlisted
          · have:=bo (fun j=>listed.getD j false=true) inv.closed hlj (inv.closed j o' hlj hlisted) i ((hwt q j o' hq hlj hqt).2 (by omega))
            rw[hunf] at this;cases this
      · cases e
    -- the tokens that it takes
    have hib:=hitB hit
    simp only[itB,Bool.and_eq_true,List.all_eq_true] at hib
    obtain⟨⟨hib1,hib2⟩,hib3⟩:=hib
    have husedlive:∀x∈its[k].used,∃t,bE (tabT ini its) x=some t∧t∈ks∧t.id=x:=fun x hx=>by
      have h1:=hib1 x hx
      cases hf:bE (tabT ini its) x with
      |none=>rw[hf] at h1;cases h1
      | some t =>
        rw[hf] at h1
        obtain⟨h2,h3⟩:=dE hf
        refine⟨t,rfl,(hks t).2 ⟨h2,fun q hq=>?_,fun q it hq hi hl=>?_⟩,h3⟩
        · simp only[hq] at h1;exact bef_lst h1
        · rw[h3] at hi
          have:=dQ hT2 hq hit hi hx
          subst this
          exact hkun hl
    have hsp:ks.Perm (its[k].used.filterMap (bE (tabT ini its))++ks.filter (fun t=> !memN t.id its[k].used)):=by
      have hidu:(its[k].used.filterMap (bE (tabT ini its))).map (·.id)=its[k].used:=by
        have:∀us:List Nat,(∀x∈us,∃t,bE (tabT ini its) x=some t∧t∈ks∧t.id=x)→(us.filterMap (bE (tabT ini its))).map (·.id)=us:=by
          intro us
          induction us with
          |nil=>intro _;rfl
          | cons x us ih =>
            intro h
            obtain⟨t,h1,_,h3⟩:=h x (by simp)
            rw[List.filterMap_cons,h1]
            simp only[List.map_cons,h3,ih fun y hy=>h y (by simp[hy])]
        exact this _ husedlive
      have hndu:(its[k].used.filterMap (bE (tabT ini its))).Nodup:=bW (by rw[hidu];exact eT hT2 hit)
      refine(List.perm_ext_iff_of_nodup (bW hnd) (List.nodup_append.2 ⟨hndu,(bW hnd).filter _,fun x hx y hy e=>?_⟩)).2 fun t=>?_
      · subst e
        have h1:x.id∈its[k].used:=by rw[←hidu];exact List.mem_map_of_mem hx
        have:=(List.mem_filter.1 hy).2
        rw[av.2 h1] at this;cases this
      · rw[List.mem_append,List.mem_filter,List.mem_filterMap]
        constructor
        · intro h
          cases hm:memN t.id its[k].used with
          |false=>exact .inr ⟨h,by simp⟩
          |true=>exact .inl ⟨t.id,av.1 hm,dK hT1 ((hks t).1 h).1⟩
        · rintro(⟨x,hx,hf⟩|⟨h,_⟩)
          · obtain⟨t',h1,h2,_⟩:=husedlive x hx
            rw[hf] at h1;cases h1;exact h2
          · exact h
    -- what it looks at
    have hread:∃rl:List Tok,rl.map (fun t=>t.tk.res bs)∈cz (tabT ini its) its[k].rds bs∧∃rest,(ks.filter (fun t=> !memN t.id its[k].used)).Perm (rl++rest):=by
      rcases hrdB hit with h0|h0
      · exact⟨[],by rw[h0];simp[cz],_,List.Perm.refl _⟩
      · have key:∀(rs:List Nat) (first:Bool) (prev:Option Nat),dP l g (tabT ini its) its its[k].used k first prev rs=true→(first=true→rs≠[])→(first=false→∃c,prev=some c∧LstT g listed c)→
            ∃t∈ks,memN t.id its[k].used=false∧[t.tk.res bs]∈cz (tabT ini its) rs bs:=by
          intro rs
          induction rs with
          | nil =>
            intro first prev h h1 h2
            cases first with
            |true=>exact absurd rfl (h1 rfl)
            | false =>
              obtain⟨c,rfl,hc⟩:=h2 rfl
              exact absurd (dep_lst h hc) hkun
          | cons i r ih =>
            intro first prev h h1 h2
            rw[dP] at h
            cases hf:bE (tabT ini its) i with
            |none=>rw[hf] at h;cases h
            | some t =>
              rw[hf] at h
              simp only[Bool.and_eq_true,Bool.not_eq_true'] at h
              obtain⟨⟨ha,hb⟩,hc⟩:=h
              obtain⟨f1,f2⟩:=dE hf
              have hin:[t.tk.res bs]∈cz (tabT ini its) (i::r) bs:=by
                cases r with
                |nil=>simp[cz,hf]
                |cons x xs=>simp[cz,hf]
              have hprod:∀q,t.prod=some q→LstT g listed q:=fun q hq=>by
                cases first with
                |true=>rw[hq] at ha;exact bef_lst ha
                |false=>
                 obtain⟨c,rfl,hcl⟩:=h2 rfl
                 rw[hq] at ha
                 rw[Nat.eq_of_beq_eq_true (show Nat.beq q c=true from ha)];exact hcl
              by_cases hlive:∀q it,its[q]? =some it→t.id∈it.used→¬LstT g listed q
              · exact⟨t,(hks t).2 ⟨f1,hprod,hlive⟩,by rw[f2];exact hb,hin⟩
              · obtain⟨q,hq⟩:=Classical.not_forall.1 hlive
                obtain⟨it,hq⟩:=Classical.not_forall.1 hq
                obtain⟨hq1,hq⟩:=Classical.not_imp.1 hq
                obtain⟨hq2,hq⟩:=Classical.not_imp.1 hq
                have hq:=Classical.not_not.1 hq
                cases hcons:eP its 0 i with
                |none=>exact absurd hq2 (by rw[f2];exact eR hcons q it hq1)
                |some c=>
                 obtain⟨q',it',e1,e2,e3⟩:=eS hcons
                 rw[f2] at hq2
                 have e4:=dQ hT2 hq1 e2 hq2 e3
                 rw[hcons] at hc
                 obtain⟨t',h5,h6,h7⟩:=ih false (some c) hc (fun e=>by cases e) (fun _=>⟨c,rfl,by rw[e1,Nat.zero_add,←e4];exact hq⟩)
                 refine⟨t',h5,h6,?_⟩
                 cases r with
                 |nil=>simp only[cz,List.mem_singleton] at h7;cases h7
                 |cons x xs=>
                  show _∈(match bE (tabT ini its) i with|some t=>[t.tk.res bs]|none=>[])::cz (tabT ini its) (x::xs) bs
                  exact List.mem_cons_of_mem _ h7
        have hne:its[k].rds≠[]∨its[k].rds=[]:=by cases its[k].rds<;>simp
        rcases hne with hne|hne
        · obtain⟨t,h1,h2,h3⟩:=key _ true none h0 (fun _=>hne) (fun e=>by cases e)
          have hm:t∈ks.filter (fun t=> !memN t.id its[k].used):=List.mem_filter.2 ⟨h1,by rw[h2];rfl⟩
          obtain⟨A1,A2,e⟩:=List.append_of_mem hm
          exact⟨[t],h3,A1++A2,by rw[e];exact List.perm_middle⟩
        · exact⟨[],by rw[hne];simp[cz],_,List.Perm.refl _⟩
    obtain⟨rl,hrl,restk,hrp⟩:=hread
    have hS1:St G w (preT (tabT ini its) its[k].used bs++(rl.map (fun t=>t.tk.res bs)++Lf (restk.map (fun t=>t.tk.res bs)++L0))):=by
      refine hS.perm ((lfp (((hsp.map (fun t=>t.tk.res bs)).append_right L0))).trans ?_)
      rw[List.map_append,List.append_assoc,f7]
      refine(cR hLf _ _).symm.trans (List.Perm.append_left _ ?_)
      refine(lfp ((hrp.map (fun t=>t.tk.res bs)).append_right L0)).trans ?_
      rw[List.map_append,List.append_assoc]
      exact(cR hLf _ _).symm
    have hrun:=hop bs k o us _ hpk hus hit _ hrl G _ hg G a w (Fz.rf G) ⟨hdf,hsz,hEnv⟩ hS1
    have hfr:=ga (Q:=Q) (i:=i) (by simpa using ho') hrun (fun d hd=>by rw[hsz];exact hn o (List.mem_of_getElem? hpk) d hd) hdf
    refine wpOp_mono (fun a' w' h=>?_) hfr
    obtain⟨u,v,H,rfl,hgh,hok,hS'⟩:=h
    have lst_set:∀q,LstT g (listed.setIfInBounds i true) q↔LstT g listed q∨q=k:=fun q=>by
      constructor
      · rintro⟨j,h1,h2⟩
        by_cases hji:i=j
        · subst hji;exact .inr (uniq q h1)
        · rw[getD_set_ne false hji] at h2;exact .inl ⟨j,h1,h2⟩
      · rintro(⟨j,h1,h2⟩|rfl)
        · exact⟨j,h1,getD_set_true h2⟩
        · exact⟨i,hk,by simp[hlt]⟩
    have tk_same:∀t∈ks,t.tk.res (upd bs k v)=t.tk.res bs:=fun t ht=>by
      obtain⟨h1,h2,_⟩:=(hks t).1 ht
      refine t.tk.ok _ _ fun q hq=>im _ _ fun e=>?_
      subst e
      rcases List.mem_append.1 h1 with h|h
      · obtain⟨x,_,rfl⟩:=List.mem_map.1 h;simp[tk0] at hq
      · obtain⟨j,it,x,h4,h5,rfl⟩:=cK.1 h
        have hj:=h2 (0+j) rfl
        rw[Nat.zero_add] at hj
        have hib:=hitB h4
        simp only[itB,Bool.and_eq_true,List.all_eq_true,Bool.or_eq_true] at hib
        rcases hib.1.2 x h5 q hq with hb|hb
        · have:=Nat.eq_of_beq_eq_true hb
          subst this;exact hkun hj
        · exact hkun (dep_lst hb hj)
    have sv_same:∀q it,its[q]? =some it→LstT g listed q→it.val.sv (upd bs k v)=it.val.sv bs:=fun q it hq hl=>by
      refine it.val.ok _ _ fun z hz=>im _ _ fun e=>?_
      subst e
      have hib:=hitB hq
      simp only[itB,Bool.and_eq_true,List.all_eq_true,Bool.or_eq_true] at hib
      rcases hib.2 z hz with hb|hb
      · have:=Nat.eq_of_beq_eq_true hb
        subst this;exact hkun hl
      · exact hkun (dep_lst hb hl)
    have outs_tab:∀x∈its[k].outs,(⟨x.1,some k,x.2⟩:Tok)∈tabT ini its:=fun x hx=>List.mem_append_right _ (cK.2 ⟨k,_,x,hit,hx,by rw[Nat.zero_add]⟩)
    have out_notks:∀x∈its[k].outs,∀t∈ks,t.id≠x.1:=fun x hx t ht e=>by
      have h1:=(hks t).1 ht
      have:=iQ hT1 h1.1 (outs_tab x hx) e
      subst this
      exact hkun (h1.2.1 k rfl)
    have hne:its[k].outs.map (·.1)|>.Nodup:=by
      have hs:(its[k].outs.map (fun x=>(⟨x.1,some k,x.2⟩:Tok))).Sublist (tabT ini its):=by
        refine List.Sublist.trans ?_ (List.sublist_append_right _ _)
        have:∀(its:List It2) (j q:Nat) (it:It2),its[q]? =some it→(it.outs.map (fun x=>(⟨x.1,some (j+q),x.2⟩:Tok))).Sublist (tabF its j):=by
          intro its
          induction its with
          |nil=>intro j q it h;simp at h
          | cons it0 r ih =>
            intro j q it h
            cases q with
            |zero=>simp at h;subst h;exact List.sublist_append_left _ _
            |succ q=>rw[show j+(q+1)=j+1+q by omega];exact(ih (j+1) q it (by simpa using h)).trans (List.sublist_append_right _ _)
        have:=this its 0 k _ hit
        rwa [Nat.zero_add] at this
      have:=hT1.sublist (hs.map (·.id))
      simpa[List.map_map,Function.comp_def] using this
    have tm:∀(t:Nat) u',a.tmps[t]? =some u'→(∀d,o.dst=some d→d≠t)→(a.put o.dst u).tmps[t]? =some u':=by
      intro t u' hu hne
      cases hd:o.dst with
      |none=>exact hu
      |some d=>simp only[Act.put];rw[Array.getElem?_setIfInBounds_ne (hne d hd)];exact hu
    refine ih _ _ _ (by have:=cJ hun;omega) ⟨by simp[inv.size],fun j q hj hlj e he=>?_,fun j hj hjl=>?_,fun j hj hlj=>?_,H,upd bs k v,its[k].outs.map (fun x=>⟨x.1,some k,x.2⟩)++ks.filter (fun t=> !memN t.id its[k].used),Fz.tr hg hgh,?_,?_,fun t=>?_,?_,?_,fun q j o' d' it hq hj hd' hiq hlj=>?_,fun t s' hl hno=>?_⟩
    · by_cases hji:i=j
      · subst hji
        rw[ho'] at hj;cases hj
        exact getD_set_true (hlist e he)
      · rw[getD_set_ne false hji] at hlj
        exact getD_set_true (inv.closed j q hj hlj e he)
    · exact getD_set_true (inv.dl j hj hjl)
    · by_cases hji:i=j
      · subst hji;exact .inr hig
      · rw[getD_set_ne false hji] at hlj;exact inv.ex j hj hlj
    · have e1:(ks.filter (fun t=> !memN t.id its[k].used)).map (fun t=>t.tk.res (upd bs k v))=(ks.filter (fun t=> !memN t.id its[k].used)).map (fun t=>t.tk.res bs):=List.map_congr_left fun t ht=>tk_same t (List.mem_filter.1 ht).1
      rw[List.map_append,e1,List.map_map,List.append_assoc]
      refine hS'.perm ?_
      refine(List.Perm.append_left _ ?_).trans (cR hLf _ _)
      refine(cR hLf _ _).trans (lfp ?_)
      rw[←List.append_assoc,←List.map_append]
      exact((hrp.map _).append_right L0).symm
    · rw[List.map_append,List.map_map]
      refine List.nodup_append.2 ⟨by simpa[Function.comp_def] using hne,?_,fun x hx y hy e=>?_⟩
      · exact hnd.sublist (List.filter_sublist.map _)
      · subst e
        simp only[List.mem_map,Function.comp_def] at hx
        obtain⟨z,hz,rfl⟩:=hx
        obtain⟨t,ht,e⟩:=List.mem_map.1 hy
        exact out_notks z hz t (List.mem_filter.1 ht).1 e
    · rw[List.mem_append,List.mem_filter,List.mem_map]
      constructor
      · rintro(⟨x,hx,rfl⟩|⟨h1,h2⟩)
        · refine⟨outs_tab x hx,fun q hq=>?_,fun q it hq hi hl=>?_⟩
          · cases hq;exact(lst_set k).2 (.inr rfl)
          · -- a token is taken only behind what gives it
            have hib:=hitB hq
            simp only[itB,Bool.and_eq_true,List.all_eq_true] at hib
            have h5:=hib.1.1 _ hi
            rw[dK hT1 (outs_tab x hx)] at h5
            simp only at h5
            rcases(lst_set q).1 hl with h|rfl
            · exact hkun (dep_lst h5 h)
            · obtain⟨h6,h7⟩:=befS h5
              rw[hgk] at h7
              have:=bo (fun j=>listed.getD j false=true) inv.closed ho' hlist _ h7
              rw[hunf] at this;cases this
        · obtain⟨h3,h4,h5⟩:=(hks t).1 h1
          refine⟨h3,fun q hq=>(lst_set q).2 (.inl (h4 q hq)),fun q it hq hi hl=>?_⟩
          rcases(lst_set q).1 hl with h|rfl
          · exact h5 q it hq hi h
          · rw[hit] at hq;cases hq
            rw[av.2 hi] at h2;cases h2
      · rintro⟨h1,h2,h3⟩
        by_cases hp:t.prod=some k
        · left
          rcases List.mem_append.1 h1 with h|h
          · obtain⟨x,_,rfl⟩:=List.mem_map.1 h;cases hp
          · obtain⟨j,it,x,h4,h5,rfl⟩:=cK.1 h
            simp only[Nat.zero_add,Option.some.injEq] at hp
            subst hp
            rw[hit] at h4;cases h4
            exact⟨x,h5,by rw[Nat.zero_add]⟩
        · refine .inr ⟨(hks t).2 ⟨h1,fun q hq=>?_,fun q it hq hi hl=>h3 q it hq hi ((lst_set q).2 (.inl hl))⟩,?_⟩
          · rcases(lst_set q).1 (h2 q hq) with h|rfl
            · exact h
            · exact absurd hq hp
          · cases hm:memN t.id its[k].used with
            |false=>rfl
            |true=>exact absurd ((lst_set k).2 (.inr rfl)) (h3 k _ hit (av.1 hm))
    · cases o.dst<;>exact hdf
    · cases o.dst with
      |none=>exact hsz
      |some d=>simp[Act.put,hsz]
    · by_cases hji:i=j
      · subst hji
        rw[ho'] at hj;cases hj
        have:=uniq q hq
        subst this
        rw[hit] at hiq;cases hiq
        refine⟨u,?_,hok d' hd'⟩
        rw[hd']
        simp only[Act.put];rw[Array.getElem?_setIfInBounds_self_of_lt (by rw[hsz];exact hn o (List.mem_of_getElem? hpk) d' hd')]
      · rw[getD_set_ne false hji] at hlj
        obtain⟨u',hu,ho3⟩:=hA q j o' d' it hq hj hd' hiq hlj
        rw[sv_same q it hiq ⟨j,hq,hlj⟩]
        exact⟨u',tm d' u' hu fun d hd=>dne d q j o' d' hd hq hj hd' hji,SV.ok_mono hgh ho3⟩
    · obtain⟨u',hu,ho3⟩:=hB' t s' hl (fun j o' hj hlj hlisted=>hno j o' hj hlj (getD_set_true hlisted))
      refine⟨u',tm t u' hu fun d hd e=>?_,SV.ok_mono hgh ho3⟩
      subst e
      exact hno i o hig ho' (by simp[hlt]) hd
theorem Under.grpT {l:List Oper} {D:List Nat} {L0:List Res} (g:List Nat) (p:List (List Nat)) (its:List It2) (ini:List (Nat×Res)) (Lf:List Res→List Res) (hLf:∀r T,(r::Lf T).Perm (Lf (r::T))) (hL:Lf (ini.map (·.2)++L)=L0) (hB:en l D g p=true) (hT:tokB l g ini its=true) (hn:(pick l g).all (fun o=>match o.dst with|some d=>Nat.blt d n|none=>true)=true)
   (h:∀F,F0≤F→∀bs,seqT P n (tabT ini its) Lf l.toArray F bs (fun E'=>Under F n E' (Lf (finT (tabT ini its) (cp its) bs++L)) (cw P Q l (g++D))) 0 its p (pick l g) E):Under F0 n E L0 (cw P Q l D):=fun F a w h0 hE hS fuel listed hc inv=>by
 subst hL
 have key:=fun bs=>f9 (h F h0 bs)
 have hG:=fF hB
 have nolst:∀q,¬LstT g listed q:=fun q ⟨i,h1,h2⟩=>by
   have hig:=List.mem_of_getElem? h1
   exact absurd ((inv.ex i (hG.lt i hig)).1 h2) (hG.apart i hig)
 have hT':=hT
 simp only[tokB,Bool.and_eq_true] at hT'
 have hids:=bL hT'.1.1
 refine io hLf hG (key fun _=>undef).1 hT (fun o ho d hd=>?_) (fun bs k o us it h1 h2 h3 R hR G T hg=>by have:=(key bs).2.2 k o us it h1 h2 h3 R hR G T hg;rwa [Nat.zero_add] at this) (fun bs G a w hg hE' hS'=>(key bs).2.1 G a w hg hE' hS') fuel listed a w hc
   ⟨inv.size,inv.closed,fun j hj hjl=>(inv.ex j hjl).2 hj,fun j hj hl=> .inl ((inv.ex j hj).1 hl),F,fun _=>undef,ini.map (fun x=>⟨x.1,none,tk0 x.2⟩),Fz.rf F,?_,?_,fun t=>?_,hE.defers,hE.size,fun k i o d it hk hi _ _ hl=>absurd ⟨i,hk,hl⟩ (nolst k),fun t s hl _=>hE.at_ t s hl⟩
 · have:=List.all_eq_true.1 hn o ho
   rw[hd] at this;simpa[Nat.blt_eq] using this
 · have e:(ini.map (fun x=>(⟨x.1,none,tk0 x.2⟩:Tok))).map (fun t=>t.tk.res (fun _=>undef))=ini.map (·.2):=by
     rw[List.map_map];rfl
   rw[e];exact hS
 · exact hids.sublist ((List.sublist_append_left _ _).map _)
 · constructor
   · intro ht
     refine⟨List.mem_append_left _ ht,fun q hq=>?_,fun q it _ _=>nolst q⟩
     obtain⟨x,_,rfl⟩:=List.mem_map.1 ht;cases hq
   · rintro⟨h1,h2,_⟩
     rcases List.mem_append.1 h1 with h|h
     · exact h
     · obtain⟨j,it,x,_,_,rfl⟩:=cK.1 h
       exact absurd (h2 _ rfl) (nolst _)
end
end Go.Sim
namespace Go.Sim
open Go
section
variable {P:Program} {ops:Array Oper} {Q:Exit→Act→World→Prop} {rest:List Oper} {F F0:Fz} {n:Nat} {E:List (Nat×SV)} {L:List Res} {C:World→Prop} {Qa:Act→Prop}
variable {d:Nat} {op:Op} {ty:TypeId} {pos:String} {aft:Array Edge} {s:SV} {X:Act→World→Prop}
theorem mv {x:Operand} (h:ev E x=some s) (hd:Nat.blt d n=true) (k:Under F0 n ((d,s)::E) L (wpList P ops Q rest)):Under F0 n E L (wpList P ops Q (⟨some d,.move x,ty,pos,aft,none⟩::rest)):=Under.ov (OpV.move h) hd k
theorem ag {x:Operand} (h:ev E x=some s) (hd:Nat.blt d n=true) (k:Under F0 n ((d,s)::E) L (wpList P ops Q rest)):Under F0 n E L (wpList P ops Q (⟨some d,.assign x,ty,pos,aft,none⟩::rest)):=Under.ov (OpV.asg h) hd k
theorem mvq {x:Operand} (h:ev E x=some s) (hd:Nat.blt d n=true) (k:ae F n ((d,s)::E) (wpQuiet P ops (Cl F L) Qa rest)):ae F n E (wpQuiet P ops (Cl F L) Qa (⟨some d,.move x,ty,pos,aft,none⟩::rest)):=ae.ov (OpV.move h) hd k
theorem agq {x:Operand} (h:ev E x=some s) (hd:Nat.blt d n=true) (k:ae F n ((d,s)::E) (wpQuiet P ops (Cl F L) Qa rest)):ae F n E (wpQuiet P ops (Cl F L) Qa (⟨some d,.assign x,ty,pos,aft,none⟩::rest)):=ae.ov (OpV.asg h) hd k
theorem bn {b:BinOp} {k:IntKind} {x y:Int} {X Y:Operand} {t u:TypeId} {v:Value} (hX:ev E X=some (.raw (.int k x))) (hY:ev E Y=some (.raw (.int k y))) (hv:binI b k x y=some v) (hd:Nat.blt d n=true)
 (kk:Under F0 n ((d,.raw v)::E) L (wpList P ops Q rest)):Under F0 n E L (wpList P ops Q (⟨some d,.binOp b t X Y u,ty,pos,aft,none⟩::rest)):=Under.ov (OpV.bin hX hY hv) hd kk
theorem bnq {b:BinOp} {k:IntKind} {x y:Int} {X Y:Operand} {t u:TypeId} {v:Value} (hX:ev E X=some (.raw (.int k x))) (hY:ev E Y=some (.raw (.int k y))) (hv:binI b k x y=some v) (hd:Nat.blt d n=true)
 (kk:ae F n ((d,.raw v)::E) (wpQuiet P ops (Cl F L) Qa rest)):ae F n E (wpQuiet P ops (Cl F L) Qa (⟨some d,.binOp b t X Y u,ty,pos,aft,none⟩::rest)):=ae.ov (OpV.bin hX hY hv) hd kk
theorem sr {x:Code} {id:Nat} {l:List Oper} (k:Under F0 n E L (wpList P l.toArray (Exit.then (x.wp P Q) Q) l)):Under F0 n E L ((Code.seq (Code.region id l.toArray false) x).wp P Q):=Under.seq (Under.region k)
theorem nt {K:Act→World→Prop} (k:Under F0 n E L K):Under F0 n E L (wpList P ops (Exit.then K Q) []):=Under.nil (Under.tN k)
theorem ns {x:Code} {id:Nat} {l:List Oper} (k:Under F0 n E L (wpList P l.toArray (Exit.then (x.wp P Q) Q) l)):Under F0 n E L (wpList P ops (Exit.then ((Code.seq (Code.region id l.toArray false) x).wp P Q) Q) []):=nt (sr k)
theorem ct {K:Act→World→Prop} (k:Under F0 n E L K):Under F0 n E L (Code.skip.wp P (Exit.then K Q)):=Under.code_skip (Under.tN k)
theorem rt {K:Act→World→Prop} (k:Under F0 n E L (Q .ret)):Under F0 n E L (Code.ret.wp P (Exit.then K Q)):=Under.retc (Under.tR k)
theorem pkT {c:Bool} {x y z:Operand} (hc:c=true) (h:ev E x=some (.raw (.bool c))) (h1:ev E y=some s):OpV P n E L ⟨some d,.pick x y z,ty,pos,aft,none⟩ s:=OpV.pick h (fun _=>h1) (fun e=>absurd (e.symm.trans hc) (by decide))
theorem pkF {c:Bool} {x y z:Operand} (hc:c=false) (h:ev E x=some (.raw (.bool c))) (h1:ev E z=some s):OpV P n E L ⟨some d,.pick x y z,ty,pos,aft,none⟩ s:=OpV.pick h (fun e=>absurd (e.symm.trans hc) (by decide)) (fun _=>h1)
theorem rbq {a b:Bool} (h:some a=some b):SV.raw (.bool a)=SV.raw (.bool b):=congrArg (fun b=>SV.raw (.bool b)) (Option.some.inj h)
theorem osi {α:Type} {a b:α} (h:some a=some b):a=b:=Option.some.inj h
end
theorem s1 {E:List (Nat×SV)} {k0:Nat} {u0:SV} (h0:look E k0=some u0):∀t v,look [(k0,u0)] t=some v→look E t=some v:=bT h0 (ej E)
theorem s2 {E:List (Nat×SV)} {k0:Nat} {u0:SV} {k1:Nat} {u1:SV} (h0:look E k0=some u0) (h1:look E k1=some u1):∀t v,look [(k0,u0),(k1,u1)] t=some v→look E t=some v:=bT h0 (bT h1 (ej E))
theorem s5 {E:List (Nat×SV)} {k0:Nat} {u0:SV} {k1:Nat} {u1:SV} {k2:Nat} {u2:SV} {k3:Nat} {u3:SV} {k4:Nat} {u4:SV} (h0:look E k0=some u0) (h1:look E k1=some u1) (h2:look E k2=some u2) (h3:look E k3=some u3) (h4:look E k4=some u4):∀t v,look [(k0,u0),(k1,u1),(k2,u2),(k3,u3),(k4,u4)] t=some v→look E t=some v:=bT h0 (bT h1 (bT h2 (bT h3 (bT h4 (ej E)))))
abbrev sq:=@Under.seq
abbrev rg:=@Under.region
abbrev nl:=@Under.nil
abbrev tn:=@Under.tN
abbrev te:=@Under.tE
abbrev tr:=@Under.tR
abbrev rc:=@Under.retc
abbrev bk:=@Under.block
abbrev bh:=@Under.bH
abbrev bN:=@Under.bN
abbrev xt:=@Under.exit
abbrev cs:=@Under.code_skip
abbrev dr:=@Under.dropr
abbrev gc:=@Under.goc
abbrev gq:=@ae.goc
abbrev sk:=@Under.skc
abbrev skq:=@ae.skc
abbrev oq:=@ae.ov
abbrev ov:=@Under.ov
abbrev rfq:=@ae.rfin
abbrev rf:=@Under.rfin
abbrev byq:=@ae.byc
abbrev by_:=@Under.byc
abbrev dw:=@Under.draw
abbrev nlq:=@ae.nil
end Go.Sim
namespace Go.Sim
open Go
section
variable {P:Program} {ops:Array Oper} {Q:Exit→Act→World→Prop} {rest:List Oper} {F0:Fz} {n:Nat} {E:List (Nat×SV)} {L:List Res}
variable {d:Nat} {op:Op} {ty:TypeId} {pos:String} {aft:Array Edge} {s:SV}
end
end Go.Sim
namespace Go.Sim
open Go
theorem At.sub {β α:Type} {K0:Kd β} {x:β} {o m:Nat} {K:Kd α} {xs:List α} {up:List α→β} (p:At K0 x o (kArr m K) xs up) {l k:Nat} (h:l+k≤m):
  At K0 x (o+l*K.n) (kArr k K) ((xs.drop l).take k) (fun ys=>up (xs.take l++ys++xs.drop (l+k))) where
 get:=fun{F cs} hx=>by
  obtain⟨a,hl,b⟩:=p.get hx
  have h1:(l+k)*K.n≤m*K.n:=Nat.mul_le_mul_right _ h
  rw[Nat.add_mul] at h1
  have a':o+m*K.n≤cs.length:=a
  have hkn:(kArr k K).n=k*K.n:=rfl
  refine⟨by rw[hkn];omega,by simp;omega,?_⟩
  have h2:=(b.drop l).take k
  rw[show(kArr m K).n=m*K.n from rfl,aN (by omega)] at h2
  rw[hkn];exact h2
 set:=fun{F cs c ys} hx hy=>by
  obtain⟨a,hl,b⟩:=p.get hx
  obtain⟨hy1,hy2⟩:=hy
  have h1:(l+k)*K.n≤m*K.n:=Nat.mul_le_mul_right _ h
  rw[Nat.add_mul] at h1
  have hset:an K F ((((cs.drop o).take (kArr m K).n).take (l*K.n))++c++(((cs.drop o).take (kArr m K).n).drop (l*K.n+k*K.n))) (xs.take l++ys++xs.drop (l+k)):=by
   have h3:=b.take l
   have h4:=b.drop (l+k)
   rw[Nat.add_mul] at h4
   exact(h3.append hy2).append h4
  have:=p.set hx (c:=_) (z:=xs.take l++ys++xs.drop (l+k)) ⟨by simp;omega,hset⟩
  refine cast (congrArg (fun l=>K0.rd F l _) ?_) this
  exact splice2 (u:=l*K.n) (q:=k*K.n) (m:=m*K.n) h1
section
variable {α β:Type} [BEq α] [LawfulBEq α]
end
section
variable {P:Program} {ops:Array Oper} {Q:Exit→Act→World→Prop} {rest:List Oper} {F0:Fz} {n:Nat} {E:List (Nat×SV)} {L:List Res}
variable {d:Nat} {op:Op} {ty:TypeId} {pos:String} {aft:Array Edge} {s:SV}
variable {α β:Type} [BEq α] [LawfulBEq α]
end
section
variable {P:Program} {ops:Array Oper} {Q:Exit→Act→World→Prop} {rest:List Oper} {F0:Fz} {n:Nat} {E:List (Nat×SV)} {L:List Res}
variable {d:Nat} {op:Op} {ty:TypeId} {pos:String} {aft:Array Edge} {s:SV}
variable {α β:Type} [BEq α]
end
end Go.Sim
namespace Go.Sim
open Go
theorem Loop.run_eq [Fu] {S R:Type} {step:S→Option (Ctl S R)} (st:Nat→S) (res:Nat→R) (n:Nat)
  (hd:∀i,i<n→(step (st i)=some (.next (st (i+1)))∧res i=res (i+1))∨step (st i)=some (.done (res i))) (hn:step (st n)=some (.done (res n))):
  ∀k i,n - i=k→i≤n→Loop.run step (st i)=some (res i)
 |0,i,hk,hi=>by
  have:i=n:=by omega
  subst this;exact Loop.run_done hn
 |k+1,i,hk,hi=>by
  rcases hd i (by omega) with⟨h1,h2⟩|h1
  · rw[Loop.run_next h1,h2];exact Loop.run_eq st res n hd hn k (i+1) (by omega) (by omega)
  · exact Loop.run_done h1
theorem Loop.run_eq0 [Fu] {S R:Type} {step:S→Option (Ctl S R)} (st:Nat→S) (res:Nat→R) (n:Nat)
 (hd:∀i,i<n→(step (st i)=some (.next (st (i+1)))∧res i=res (i+1))∨step (st i)=some (.done (res i))) (hn:step (st n)=some (.done (res n))) {s0:S} (h0:s0=st 0):
 Loop.run step s0=some (res 0):=by subst h0;exact Loop.run_eq st res n hd hn _ 0 rfl (by omega)
theorem aJ {α:Type} {xs:List α} {i:Nat} (h:i<xs.length):idx xs (i:Int)=some xs[i]:=by
 unfold idx
 have h1:(0:Int)≤(i:Int):=by omega
 have h2:(i:Int)<(xs.length:Int):=by omega
 simp[h1,h2,h]
theorem wrap64 {x:Int} (h: -9223372036854775808≤x∧x≤9223372036854775807):IntKind.i64.wrap x=x:=IntWalk.i64_in _ (by omega)
theorem dg {α:Type} {xs ys:List α} (h:xs.length+ys.length≤room):app xs ys=some (xs++ys):=by
 unfold app;simp[h]
def ltL:List Int→List Int→Bool
 |x::xs,y::ys=>if x=y then ltL xs ys else decide (x<y)
 |_,_=>false
theorem cT:∀x,ltL x x=false
 |[]=>rfl
 |a::x=>by simp[ltL,cT x]
theorem dt:∀{x y z:List Int},ltL x y=true→ltL y z=true→ltL x z=true
 |[],_,_,h,_=>by simp[ltL] at h
 |_::_,[],_,h,_=>by simp[ltL] at h
 |_::_,_::_,[],_,h=>by simp[ltL] at h
 |a::x,b::y,c::z,h1,h2=>by
  simp only[ltL] at h1 h2⊢
  by_cases hab:a=b
  · subst hab
    rw[if_pos rfl] at h1
    by_cases hac:a=c
    · subst hac;rw[if_pos rfl] at h2⊢;exact dt h1 h2
    · rw[if_neg hac] at h2⊢;exact h2
  · rw[if_neg hab] at h1
    by_cases hbc:b=c
    · subst hbc;rw[if_neg hab];exact h1
    · rw[if_neg hbc] at h2
      have h1:=of_decide_eq_true h1
      have h2:=of_decide_eq_true h2
      rw[if_neg (by omega)];exact decide_eq_true (by omega)
theorem dR:∀{x y:List Int},x.length=y.length→x≠y→ltL x y=true∨ltL y x=true
 |[],[],_,h=>absurd rfl h
 |a::x,b::y,hl,h=>by
  simp only[ltL]
  by_cases hab:a=b
  · subst hab;simp only[if_true];exact dR (by simpa using hl) (fun e=>h (by rw[e]))
  · rw[if_neg hab,if_neg (fun e=>hab e.symm)];simp only[decide_eq_true_eq];omega
 |[],_::_,hl,_=>by simp at hl
 |_::_,[],hl,_=>by simp at hl
def gb (x:List Int):Prop:=∀b∈x,0≤b∧b≤255
theorem gM:∀{x y:List Int},gb x→gb y→x.length=y.length→(cmpB x y<0↔ltL x y=true)
 |[],[],_,_,_=>by simp[cmpB,Lib.bytesOf,Lib.compareBytes,ltL]
 |a::x,b::y,hx,hy,hl=>by
  have ih:=gM (x:=x) (y:=y) (fun c hc=>hx c (by simp[hc])) (fun c hc=>hy c (by simp[hc])) (by simpa using hl)
  have ha:=hx a (by simp)
  have hb:=hy b (by simp)
  have key:∀p q:Int,0≤p→p≤255→0≤q→q≤255→(UInt8.ofNat p.toNat<UInt8.ofNat q.toNat↔p<q):=by
    intro p q h1 h2 h3 h4
    rw[UInt8.lt_iff_toNat_lt,UInt8.toNat_ofNat',UInt8.toNat_ofNat',Nat.mod_eq_of_lt (by omega),Nat.mod_eq_of_lt (by omega)]
    omega
  have k1:=key a b ha.1 ha.2 hb.1 hb.2
  have k2:=key b a hb.1 hb.2 ha.1 ha.2
  simp only[cmpB,Lib.bytesOf,List.map_cons,Lib.compareBytes,ltL] at ih⊢
  by_cases h1:a<b
  · rw[if_pos (k1.2 h1),if_neg (by omega)];simp[h1]
  · rw[if_neg (fun h=>h1 (k1.1 h))]
    by_cases h2:b<a
    · rw[if_pos (k2.2 h2),if_neg (by omega)];simp;omega
    · rw[if_neg (fun h=>h2 (k2.1 h)),if_pos (by omega)];exact ih
 |[],_::_,_,_,hl=>by simp at hl
 |_::_,[],_,_,hl=>by simp at hl
def addk {α:Type} [BEq α] (ks:List α) (x:α):List α:=if ks.elem x then ks else ks++[x]
section
variable {α β:Type} [BEq α] [LawfulBEq α]
theorem eU {ks:List α} {x y:α}:y∈addk ks x↔y∈ks∨y=x:=by
 unfold addk;split
 · rename_i h
   have hx:x∈ks:=by simpa using h
   exact⟨.inl,fun h=>h.elim id fun e=>e▸hx⟩
 · simp
theorem gw {ks:List α} {x:α} (h:ks.Nodup):(addk ks x).Nodup:=by
 unfold addk;split
 · exact h
 · rename_i hx
   have hx:x∉ks:=by simpa using hx
   rw[List.nodup_append]
   exact⟨h,by simp,fun a ha b hb=>by simp at hb;subst hb;exact fun e=>hx (e▸ha)⟩
theorem gW {l ks:List α} {y:α}:y∈l.foldl addk ks↔y∈ks∨y∈l:=by
 induction l generalizing ks with
 |nil=>simp
 |cons x l ih=>rw[List.foldl_cons,ih,eU,List.mem_cons];exact or_assoc
theorem gd {l ks:List α} (h:ks.Nodup):(l.foldl addk ks).Nodup:=by
 induction l generalizing ks with
 |nil=>exact h
 |cons x l ih=>exact ih (gw h)
end
theorem gX {α:Type} [BEq α] {l ks:List α}:(l.foldl addk ks).length≤ks.length+l.length:=by
 induction l generalizing ks with
 |nil=>simp
 |cons x l ih=>
  have:=ih (ks:=addk ks x)
  have h2:(addk ks x).length≤ks.length+1:=by unfold addk;split<;>simp
  simp only[List.foldl_cons,List.length_cons];omega
section
variable {α β:Type} [BEq α] [LawfulBEq α]
theorem gx {l ks:List α} (h:(l.foldl addk ks).length=ks.length+l.length):l.Nodup∧∀x∈l,x∉ks:=by
 induction l generalizing ks with
 |nil=>simp
 |cons x l ih=>
  simp only[List.foldl_cons,List.length_cons] at h
  have h1:=gX (l:=l) (ks:=addk ks x)
  by_cases hx:x∈ks
  · have:(addk ks x).length=ks.length:=by simp[addk,hx]
    omega
  · have h2:addk ks x=ks++[x]:=by simp[addk,hx]
    have h3:(addk ks x).length=ks.length+1:=by rw[h2];simp
    obtain⟨h4,h5⟩:=ih (ks:=addk ks x) (by omega)
    refine⟨List.nodup_cons.2 ⟨fun hm=>h5 x hm (eU.2 (.inr rfl)),h4⟩,fun y hy=>?_⟩
    rcases List.mem_cons.1 hy with rfl|hy
    · exact hx
    · exact fun hk=>h5 y hy (eU.2 (.inl hk))
theorem fw {x:α} {v:β}:∀{ps:List (α×β)},(mset x v ps).map (·.1)=addk (ps.map (·.1)) x
 |[]=>by simp[mset,addk]
 |p::ps=>by
  have ih:=fw (x:=x) (v:=v) (ps:=ps)
  by_cases h:x=p.1
  · subst h;simp[mset,addk]
  · have hne:(x==p.1)=false:=by simpa using h
    simp only[mset,hne,cond_false,List.map_cons,ih,addk]
    by_cases hm:x∈ps.map (·.1)
    · have h2:(p.1::ps.map (·.1)).elem x=true:=by simpa using Or.inr (by simpa using hm)
      have h3:(ps.map (·.1)).elem x=true:=by simpa using hm
      rw[if_pos h3,if_pos h2]
    · have h2:¬(p.1::ps.map (·.1)).elem x=true:=by
       rw[List.elem_iff];intro h4;rcases List.mem_cons.1 h4 with h5|h5
       · exact h h5
       · exact hm h5
      have h3:¬(ps.map (·.1)).elem x=true:=by rw[List.elem_iff];exact hm
      rw[if_neg h3,if_neg h2];rfl
end
end Go.Sim
