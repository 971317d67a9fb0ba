import Derived.Test.YtdkfkpbijdimkaaGreatSimC
import Derived.Scope
import Derived.Lib.ConvBytes
import Derived.Laws.AppendOwn
set_option linter.unusedVariables false
set_option linter.unusedSimpArgs false
namespace Go.Sim
open Go
section
variable {P:Program} {Q:Exit→Act→World→Prop} {F0:Fz} {n:Nat} {E:List (Nat×SV)} {L:List Res}
end
def SvF (s:SV):Prop:=∀F G u,s.ok F u→s.ok G u
theorem SvF.raw {v:Value}:SvF (.raw v):=fun F G u h=>by simp only[SV.ok] at*;exact h
theorem SvF.val {α:Type} {K:Kd α} {x:α} (hK:Free K):SvF (.val K x):=fun F G u h=>by
 simp only[SV.ok] at*
 obtain⟨cs,a,b⟩:=h
 exact⟨cs,hK _ _ _ _ a,b⟩
end Go.Sim
namespace Go.Sim
open Go
theorem sb {E E':List (Nat×SV)} (h:E'.map (fun p=>look E p.1)=E'.map (fun p=>some p.2)):∀t v,look E' t=some v→look E t=some v:=by
 induction E' with
 |nil=>exact ej E
 |cons p E' ih=>
  obtain⟨k,u⟩:=p
  simp only[List.map_cons,List.cons.injEq] at h
  exact bT h.1 (ih h.2)
def eV:Nat→List Res→List Res→List Res
 |0,_,T=>T
 |k+1,r::l,T=>r::eV k l T
 |_+1,[],T=>T
def gN:Nat→List Res→List Res
 |0,l=>l
 |k+1,_::l=>gN k l
 |_+1,[]=>[]
theorem dF:∀(k:Nat) (l:List Res),eV k l (gN k l)=l
 |0,_=>rfl
 |k+1,r::l=>by simp only[eV,gN,dF k l]
 |_+1,[]=>rfl
theorem eW:∀(k:Nat) (l:List Res) (r:Res) (T:List Res),(r::eV k l T).Perm (eV k l (r::T))
 |0,_,_,_=> .refl _
 |k+1,q::l,r,T=>(List.Perm.swap _ _ _).trans (.cons _ (eW k l r T))
 |_+1,[],_,_=> .refl _
section
variable {P:Program} {ops:Array Oper} {Q:Exit→Act→World→Prop} {rest:List Oper} {F0:Fz} {n:Nat} {E:List (Nat×SV)} {L:List Res}
variable {D:List Nat} {d:Nat} {op:Op} {ty:TypeId} {pos:String} {aft:Array Edge} {s:SV} {Lf:List Res→List Res} {tab:List Tok}
def ip (G:Fz) (L:List Res) (d:Nat) (s:SV):Act→World→Prop:=fun a w=>∃(H:Fz) (_:Value),G≤H∧(∃u,a.tmps[d]? =some u∧s.ok H u)∧St H w L∧a.defers=[]
def seqV (P:Program) (n:Nat) (Lf:List Res→List Res) (ops:Array Oper) (F0:Fz) (K:List (Nat×SV)→Prop):List (List Nat)→List Oper→List (Nat×SV)→Prop
 |us::p,o::l,E=>∃d s,o.dst=some d∧(∀G T,F0≤G→Under G n (bV us E) (Lf T) (wpList P ops (Exit.then (ip G (Lf T) d s) QF) [o]))∧seqV P n Lf ops F0 K p l ((d,s)::E)
 |[],[],E=>K E
 |_,_,_=>False
theorem iq {bs:Nat→Value} {K K':List (Nat×SV)→Prop} (hk:∀E,K E→K' E):∀{its:List It2} {p:List (List Nat)} {l:List Oper} {E:List (Nat×SV)} {j:Nat},seqT P n tab Lf ops F0 bs K j its p l E→seqT P n tab Lf ops F0 bs K' j its p l E
 |[],[],[],_,_,h=>hk _ h
 |_::_,_::_,_::_,_,_,h=>⟨h.1,iq hk h.2⟩
 |[],_::_,_,_,_,h=>by simp[seqT] at h
 |[],[],_::_,_,_,h=>by simp[seqT] at h
 |_::_,[],_,_,_,h=>by simp[seqT] at h
 |_::_,_::_,[],_,_,h=>by simp[seqT] at h
def plI (l:List SV):List It2:=l.map fun s=>⟨sk0 s,[],[],[]⟩
theorem ir {K:List (Nat×SV)→Prop}:∀{p:List (List Nat)} {l:List Oper} {E:List (Nat×SV)},seqV P n Lf ops F0 K p l E→∃vs:List SV,∀G,F0≤G→∀bs j,seqT P n [] Lf ops G bs K j (plI vs) p l E
 |[],[],E,h=>⟨[],fun _ _ _ _=>h⟩
 |us::p,o::l,E,h=>by
  obtain⟨d,s,hd,h1,h2⟩:=h
  obtain⟨vs,hv⟩:=ir h2
  refine⟨s::vs,fun G hG bs j=>⟨fun R hR G' T hG'=>?_,?_⟩⟩
  · simp only[cz,List.mem_singleton] at hR;subst hR
    rw[hd]
    exact h1 G' T (Fz.tr hG hG')
  · rw[hd];exact hv G hG bs (j+1)
 |[],_::_,_,h=>h.elim
 |_::_,[],_,h=>h.elim
theorem Vq.v {K:List (Nat×SV)→Prop} {us:List Nat} {p:List (List Nat)} {l:List Oper} {g:Option (Nat×Bool)} (h:∀G T,F0≤G→Under G n (bV us E) (Lf T) (wpList P ops (Exit.then (ip G (Lf T) d s) QF) [⟨some d,op,ty,pos,aft,g⟩])) (k:seqV P n Lf ops F0 K p l ((d,s)::E)):
 seqV P n Lf ops F0 K (us::p) (⟨some d,op,ty,pos,aft,g⟩::l) E:=⟨d,s,rfl,h,k⟩
theorem Vq.end (hd:look E d=some s):Under F0 n E L (wpList P ops (Exit.then (ip F0 L d s) QF) []):=fun F a w h0 hE hS=>⟨F,undef,h0,hE.at_ d _ hd,hS,hE.defers⟩
theorem vo {K:List (Nat×SV)→Prop} {us:List Nat} {p:List (List Nat)} {l:List Oper} (h:∀L,OpV P n (bV us E) L ⟨some d,op,ty,pos,aft,none⟩ s) (hd:Nat.blt d n=true) (k:seqV P n Lf ops F0 K p l ((d,s)::E)):
 seqV P n Lf ops F0 K (us::p) (⟨some d,op,ty,pos,aft,none⟩::l) E:=Vq.v (fun G T _=>Under.ov (h _) hd (Vq.end (by simp[look]))) k
theorem vm {K:List (Nat×SV)→Prop} {us:List Nat} {p:List (List Nat)} {l:List Oper} {x:Operand} (h:ev (bV us E) x=some s) (hd:Nat.blt d n=true) (k:seqV P n Lf ops F0 K p l ((d,s)::E)):
 seqV P n Lf ops F0 K (us::p) (⟨some d,.move x,ty,pos,aft,none⟩::l) E:=vo (fun _=>OpV.move h) hd k
theorem vn {l:List Oper} (h:Under F0 n E L (cw P Q l D)):seqV P n Lf ops F0 (fun E'=>Under F0 n E' L (cw P Q l D)) [] [] E:=h
theorem gO:∀(vs:List SV) (j:Nat),tabF (plI vs) j=[]
 |[],_=>rfl
 |s::vs,j=>by simp only[plI,List.map_cons,tabF,List.map_nil,List.nil_append];exact gO vs (j+1)
theorem dL:∀vs:List SV,cp (plI vs)=[]
 |[]=>rfl
 |s::vs=>by have:=dL vs;simp only[cp,plI,List.map_cons,List.flatMap_cons,List.nil_append] at*;exact this
theorem ge (l:List Oper) (g:List Nat) (full:List It2) (hf:cp full=[]):∀(vs:List SV) (j:Nat),eQ l g [] full (plI vs) j=true
 |[],_=>rfl
 |s::vs,j=>by
  have ih:=ge l g full hf vs (j+1)
  simp only[plI,List.map_cons,eQ] at ih⊢
  rw[ih]
  simp[itB,sk0]
theorem Under.grpV {l:List Oper} {D:List Nat} (g:List Nat) (p:List (List Nat)) (k:Nat) (hB:en l D g p=true) (hn:(pick l g).all (fun o=>match o.dst with|some d=>Nat.blt d n|none=>true)=true)
   (h:seqV P n (eV k L) l.toArray F0 (fun E'=>Under F0 n E' L (cw P Q l (g++D))) p (pick l g) E):Under F0 n E L (cw P Q l D):=by
 obtain⟨vs,hv⟩:=ir h
 have e1:tabT [] (plI vs)=[]:=by simp only[tabT,List.map_nil,List.nil_append];exact gO vs 0
 refine Under.grpT (L0:=L) (L:=gN k L) g p (plI vs) [] (eV k L) (eW k L) (dF k L) hB ?_ hn (fun F hF bs=>?_)
 · simp only[tokB,e1,dL,ge l g _ (dL vs) vs 0];rfl
 · rw[e1,dL]
   refine iq (fun E' hk=>?_) (hv F hF bs 0)
   simp only[finT,List.nil_append,dF]
   exact Under.le hF hk
theorem afr {x:Code} {K:Act→World→Prop} {R:Type} {r:R} (e:R→List (Nat×SV)) (l:R→List Res) (hk:Under F0 n (e r) (l r) K) (h:∀K',(∀x,r=x→Under F0 n (e x) (l x) K')→Under F0 n E L (x.wp P (Exit.then K' Q))):
 Under F0 n E L (x.wp P (Exit.then K Q)):=h K fun x hx=>hx▸hk
theorem lp [Fu] {S R C:Type} {step:S→Option (Ctl S R)} {x0:S} {r:R} {c:Code} (hrun:Loop.run step x0=some r) (c0:C) (Es:S→C→List (Nat×SV)) (Ls:S→C→List Res)
 (hE:(Es x0 c0).map (fun p=>look E p.1)=(Es x0 c0).map (fun p=>some p.2)) (hL:L=Ls x0 c0)
 (round:∀x y o,step x=some o→(∀q,o= .done q→q=r)→Under F0 n (Es x y) (Ls x y) (c.wp P (Exit.then (fun a w=>∃x' y' F,o= .next x'∧F0≤F∧Env F a n (Es x' y')∧St F w (Ls x' y')) Q))):
 Under F0 n E L ((Code.loop c).wp P Q):=Under.loop c0 Es Ls hrun (sb hE) hL round
theorem nx {S R C:Type} {o:Ctl S R} {Es:S→C→List (Nat×SV)} {Ls:S→C→List Res} {x':S} (y':C) (ho:(some (Ctl.next x'):Option (Ctl S R))=some o) (hE:(Es x' y').map (fun p=>look E p.1)=(Es x' y').map (fun p=>some p.2)) (hL:L=Ls x' y'):
 Under F0 n E L (fun a w=>∃x' y' F,o= .next x'∧F0≤F∧Env F a n (Es x' y')∧St F w (Ls x' y')):=Under.next x' y' ho (sb hE) hL
theorem wr {X:Act→World→Prop} {E':List (Nat×SV)} (k:Under F0 n E' L X) (hs:E'.map (fun p=>look E p.1)=E'.map (fun p=>some p.2)):Under F0 n E L X:=Under.weak k (sb hs)
theorem okI {f:FuncId} {fn:Func} {c:Code} {args:List SV} {L':List Res} (m:Nat) (hf:P.funcs[f]? =some fn) (hb:fn.body=some c) (hn:fn.ntmps=m) (hl:Nat.ble args.length m=true)
 (k:∀F0,Under F0 m (argE 0 args) L (c.wp P (bodyPost P fn fun e w'=>∃G v,e= .returned v∧F0≤G∧St G w' L'∧s.ok G v))):Ok P f args L s L':=Ok.intro m _ hf hb hn hl rfl k
end
abbrev sP:=@Under.stP
abbrev lP:=@Under.ldP
abbrev ca:=@Under.call
abbrev it:=@Under.ite
abbrev al:=@Under.al
abbrev fz:=@Under.frz
abbrev fzO:=@Under.frzO
abbrev f1:=@Under.fo1
abbrev f2:=@Under.fo2
abbrev f3:=@Under.fo3
abbrev ap:=@Under.app
abbrev tV:=@Under.toV
abbrev bO:=@Under.bsO
abbrev bF:=@Under.bsF
abbrev bX:=@Under.bxF
abbrev pn:=@Under.pn
abbrev p1:=@Under.p1
abbrev pd:=@Under.pdone
abbrev ph:=@Under.phases
abbrev gV:=@Under.grpV
abbrev rs:=@Under.rets
abbrev pb (b:Nat):SV:= .raw (.pointer (some ⟨b,0,none⟩))
abbrev i64 (x:Int):SV:= .raw (.int .i64 x)
theorem bs {α β:Type} {x:Option α} {f:α→Option β} {r:β} {G:Prop} (h:x.bind f=some r) (k:∀a,x=some a→f a=some r→G):G:=let ⟨a,b,c⟩:=bsome h;k a b c
theorem gs {c:Bool} {α:Type} {x:Option α} {r:α} {G:Prop} (h:(bif c then x else none)=some r) (k:c=true→x=some r→G):G:=let ⟨a,b⟩:=gsome h;k a b
section
variable {P:Program} {ops:Array Oper} {Q:Exit→Act→World→Prop} {rest:List Oper} {F0:Fz} {n:Nat} {E:List (Nat×SV)} {L:List Res}
variable {d e:Nat} {op:Op} {ty ty':TypeId} {pos pos':String} {aft aft':Array Edge} {s:SV}
theorem m_ {x:Operand} (h:(ev E x,Nat.blt d n)=(some s,true)) (k:Under F0 n ((d,s)::E) L (wpList P ops Q rest)):Under F0 n E L (wpList P ops Q (⟨some d,.move x,ty,pos,aft,none⟩::rest)):=mv (Prod.mk.inj h).1 (Prod.mk.inj h).2 k
theorem a_ {x:Operand} (h:(ev E x,Nat.blt d n)=(some s,true)) (k:Under F0 n ((d,s)::E) L (wpList P ops Q rest)):Under F0 n E L (wpList P ops Q (⟨some d,.assign x,ty,pos,aft,none⟩::rest)):=ag (Prod.mk.inj h).1 (Prod.mk.inj h).2 k
theorem b_ {b:BinOp} {i:IntKind} {x y:Int} {X Y:Operand} {t u:TypeId} {v:Value} (h:(ev E X,ev E Y,binI b i x y,Nat.blt d n)=(some (.raw (.int i x)),some (.raw (.int i y)),some v,true))
  (k:Under F0 n ((d,.raw v)::E) L (wpList P ops Q rest)):Under F0 n E L (wpList P ops Q (⟨some d,.binOp b t X Y u,ty,pos,aft,none⟩::rest)):=by
 simp only[Prod.mk.injEq] at h
 exact bn h.1 h.2.1 h.2.2.1 h.2.2.2 k
theorem mb {x:Operand} {b:BinOp} {i:IntKind} {p q:Int} {X Y:Operand} {t u:TypeId} {v:Value} (h:(ev E x,Nat.blt d n,ev ((d,s)::E) X,ev ((d,s)::E) Y,binI b i p q,Nat.blt e n)=(some s,true,some (.raw (.int i p)),some (.raw (.int i q)),some v,true))
  (k:Under F0 n ((e,.raw v)::(d,s)::E) L (wpList P ops Q rest)):Under F0 n E L (wpList P ops Q (⟨some d,.move x,ty,pos,aft,none⟩::⟨some e,.binOp b t X Y u,ty',pos',aft',none⟩::rest)):=by
 simp only[Prod.mk.injEq] at h
 exact mv h.1 h.2.1 (bn h.2.2.1 h.2.2.2.1 h.2.2.2.2.1 h.2.2.2.2.2 k)
theorem oL {α:Type} {K:Kd α} {T:TypeId} {X:Operand} {x:α} (hT:KT P T K) (h:(ev E X,Nat.blt d n)=(some (.ptr K x),true)) (k:Under F0 n ((d,.val K x)::E) L (wpList P ops Q rest)):Under F0 n E L (wpList P ops Q (⟨some d,.load T X,ty,pos,aft,none⟩::rest)):=
 Under.ov (OpV.ld hT (Prod.mk.inj h).1) (Prod.mk.inj h).2 k
theorem oI {i:IntKind} {T:TypeId} {X:Operand} {x:Int} (hT:KT P T (kInt i)) (h:(ev E X,Nat.blt d n)=(some (.ptr (kInt i) x),true)) (k:Under F0 n ((d,.raw (.int i x))::E) L (wpList P ops Q rest)):Under F0 n E L (wpList P ops Q (⟨some d,.load T X,ty,pos,aft,none⟩::rest)):=
 Under.ov (OpV.ldI hT (Prod.mk.inj h).1) (Prod.mk.inj h).2 k
theorem oE {X:Operand} {i:Nat} {l:List SV} (h:(ev E X,l[i]?,Nat.blt d n)=(some (.tup l),some s,true)) (k:Under F0 n ((d,s)::E) L (wpList P ops Q rest)):Under F0 n E L (wpList P ops Q (⟨some d,.extract X i,ty,pos,aft,none⟩::rest)):=by
 simp only[Prod.mk.injEq] at h
 exact Under.ov (OpV.extr h.1 h.2.1) h.2.2 k
theorem oN {α:Type} {K:Kd α} {xs:List α} {X:Operand} {t e:TypeId} (ht:P.underlying t=some (.slice e)) (h:(ev E X,Nat.blt d n)=(some (.val (kSl K) xs),true)) (k:Under F0 n ((d,.raw (.int .i64 xs.length))::E) L (wpList P ops Q rest)):
 Under F0 n E L (wpList P ops Q (⟨some d,.call ⟨.builtin .len,#[X],#[t]⟩,ty,pos,aft,none⟩::rest)):=Under.ov (OpV.len ht (Prod.mk.inj h).1 rdV) (Prod.mk.inj h).2 k
theorem oF {β:Type} {fs:List (Fld β)} {T:TypeId} {X:Operand} {i m:Nat} {x:β} {f:Fld β} (hT:fldB P T i=some (offF fs i,m+1)) (h:(ev E X,fs[i]?,Nat.blt d n)=(some (.ptr (kSt fs) x),some f,true)) (k:Under F0 n ((d,.ptr f.K (f.get x))::E) L (wpList P ops Q rest)):
  Under F0 n E L (wpList P ops Q (⟨some d,.fieldAddr T X i,ty,pos,aft,none⟩::rest)):=by
 simp only[Prod.mk.injEq] at h
 exact Under.ov (OpV.fd hT h.2.1 h.1) h.2.2 k
theorem oM {T:TypeId} {X:Operand} {i b off o m:Nat} (hT:fldB P T i=some (o,m+1)) (h:(ev E X,Nat.blt d n)=(some (.raw (.pointer (some ⟨b,off,none⟩))),true)) (k:Under F0 n ((d,.raw (.pointer (some ⟨b,off+o,none⟩)))::E) L (wpList P ops Q rest)):
 Under F0 n E L (wpList P ops Q (⟨some d,.fieldAddr T X i,ty,pos,aft,none⟩::rest)):=Under.ov (OpV.fdM hT (Prod.mk.inj h).1) (Prod.mk.inj h).2 k
theorem oS {α:Type} {K:Kd α} {T e:TypeId} {X I:Operand} {xs:List α} {x:α} {q:IntKind} {i:Int} (hx:idx xs i=some x) (hT:P.underlying T=some (.slice e)) (hs:(P.info? e).map (·.size)=some K.n)
  (h:(ev E X,ev E I,Nat.blt d n)=(some (.val (kSl K) xs),some (.raw (.int q i)),true)) (k:Under F0 n ((d,.ptr K x)::E) L (wpList P ops Q rest)):Under F0 n E L (wpList P ops Q (⟨some d,.indexAddr T X I,ty,pos,aft,none⟩::rest)):=by
 simp only[Prod.mk.injEq] at h
 exact Under.ov (OpV.ixS hx hT hs h.1 rdV h.2.1) h.2.2 k
theorem oC {i j:IntKind} {x:Int} {X:Operand} {q t:TypeId} (hs:(P.underlying q).isSome=true) (ht:P.underlying t=some (.int i)) (h:(ev E X,Nat.blt d n)=(some (.raw (.int j x)),true)) (k:Under F0 n ((d,.raw (.int i (i.wrap x)))::E) L (wpList P ops Q rest)):
 Under F0 n E L (wpList P ops Q (⟨some d,.convert q t X,ty,pos,aft,none⟩::rest)):=Under.ov (OpV.conv hs ht (Prod.mk.inj h).1) (Prod.mk.inj h).2 k
theorem cx {f:FuncId} {X:Operand} {xs:List Operand} {tys:Array TypeId} {l:List SV} {L':List Res} (hc:∀args w,(callFunc f args).run P w= .ok (.enter f args) w) (h:(ev E X,evs E xs,Nat.blt d n)=(some (.raw (.func (.func f) #[] #[])),some l,true)) (ho:Ok P f l L s L')
  (k:Under F0 n ((d,s)::E) L' (wpList P ops Q rest)):Under F0 n E L (wpList P ops Q (⟨some d,.call ⟨.value X,xs.toArray,tys⟩,ty,pos,aft,none⟩::rest)):=by
 simp only[Prod.mk.injEq] at h
 exact Under.call hc h.1 h.2.1 ho h.2.2 k
theorem gc_ {o:Option Nat} {g:Nat} {j:Nat} {b c:Bool} (hc:c=b) (h:((ops[j]?).bind (·.dst),look E g)=(some g,some (.raw (.bool c)))) (k:Under F0 n E L (wpList P ops Q (⟨o,op,ty,pos,aft,none⟩::rest))):
 Under F0 n E L (wpList P ops Q (⟨o,op,ty,pos,aft,some (j,b)⟩::rest)):=gc hc (Prod.mk.inj h).1 (Prod.mk.inj h).2 k
theorem sk_ {u g:Nat} {j:Nat} {b c:Bool} (hc:c= !b) (h:((ops[j]?).bind (·.dst),look E g,Nat.blt u n)=(some g,some (.raw (.bool c)),true)) (k:Under F0 n ((u,.raw undef)::E) L (wpList P ops Q rest)):
  Under F0 n E L (wpList P ops Q (⟨some u,op,ty,pos,aft,some (j,b)⟩::rest)):=by
 simp only[Prod.mk.injEq] at h
 exact sk hc h.1 h.2.1 h.2.2 k
theorem pT {c:Bool} {x y z:Operand} (hc:c=true) (h:(ev E x,ev E y,Nat.blt d n)=(some (.raw (.bool c)),some s,true)) (k:Under F0 n ((d,s)::E) L (wpList P ops Q rest)):Under F0 n E L (wpList P ops Q (⟨some d,.pick x y z,ty,pos,aft,none⟩::rest)):=by
 simp only[Prod.mk.injEq] at h
 exact Under.ov (pkT hc h.1 h.2.1) h.2.2 k
theorem pF {c:Bool} {x y z:Operand} (hc:c=false) (h:(ev E x,ev E z,Nat.blt d n)=(some (.raw (.bool c)),some s,true)) (k:Under F0 n ((d,s)::E) L (wpList P ops Q rest)):Under F0 n E L (wpList P ops Q (⟨some d,.pick x y z,ty,pos,aft,none⟩::rest)):=by
 simp only[Prod.mk.injEq] at h
 exact Under.ov (pkF hc h.1 h.2.1) h.2.2 k
theorem vm_ {Lf:List Res→List Res} {K:List (Nat×SV)→Prop} {us:List Nat} {p:List (List Nat)} {l:List Oper} {x:Operand} (h:(ev (bV us E) x,Nat.blt d n)=(some s,true)) (k:seqV P n Lf ops F0 K p l ((d,s)::E)):
 seqV P n Lf ops F0 K (us::p) (⟨some d,.move x,ty,pos,aft,none⟩::l) E:=vm (Prod.mk.inj h).1 (Prod.mk.inj h).2 k
end
end Go.Sim
namespace Go.Sim
open Go
section
variable {P:Program} {ops:Array Oper} {Q:Exit→Act→World→Prop} {rest:List Oper} {F0:Fz} {n:Nat} {E:List (Nat×SV)} {L:List Res}
variable {d:Nat} {op:Op} {ty:TypeId} {pos:String} {aft:Array Edge} {s:SV}
end
end Go.Sim
namespace Go.Sim
open Go
section
variable {P:Program} {ops:Array Oper} {Q:Exit→Act→World→Prop} {rest:List Oper} {F0:Fz} {n:Nat} {E:List (Nat×SV)} {L:List Res}
variable {τ:Type} {KT:Kd τ} {TE TT:TypeId} {v:Value}
end
end Go.Sim
namespace Go.Sim
open Go
def dh {α:Type} (K:Kd α):Kd (Option α) where
 n:=1
 agg:=false
 rd:=fun F cs o=>(cs=[.pointer none]∧o=none)∨∃x p,o=some x∧cs=[.pointer (some p)]∧RdAt F p K x
 len:=fun h=>by rcases h with⟨h,_⟩|⟨_,_,_,h,_⟩<;>subst h<;>rfl
 mono:=fun hg h=>h.imp id fun⟨x,p,e,h,r⟩=>⟨x,p,e,h,r.mono hg⟩
 one:=fun h v hv=>by rcases h with⟨h,_⟩|⟨_,_,_,h,_⟩<;>subst h<;>simp at hv<;>subst hv<;>rfl
 sole:=fun _=>rfl
theorem gf {α:Type} {K:Kd α} {F:Fz} {v:Value} {o:Option α} (h:(dh K).val F v o):(v= .pointer none∧o=none)∨∃x p,o=some x∧v= .pointer (some p)∧RdAt F p K x:=by
 obtain⟨cs,h,rfl⟩:=h
 rcases h with⟨h,e⟩|⟨x,p,e,h,r⟩
 · subst h;exact .inl ⟨rfl,e⟩
 · subst h;exact .inr ⟨x,p,e,rfl,r⟩
theorem iU {α:Type} {K:Kd α}:rdOf (.raw (.pointer none)) (dh K) none:=fun F v h=>by
 simp only[SV.ok] at h;subst h;exact⟨[.pointer none],.inl ⟨rfl,rfl⟩,rfl⟩
theorem iV {α:Type} {K:Kd α} {x:α}:rdOf (.ptr K x) (dh K) (some x):=fun F v h=>by
 simp only[SV.ok] at h;obtain⟨p,rfl,h⟩:=h;exact⟨[.pointer (some p)],.inr ⟨x,p,rfl,rfl,h⟩,rfl⟩
section
variable {P:Program} {ops:Array Oper} {Q:Exit→Act→World→Prop} {rest:List Oper} {F0:Fz} {n:Nat} {E:List (Nat×SV)} {L:List Res}
variable {d:Nat} {op:Op} {ty:TypeId} {pos:String} {aft:Array Edge} {s:SV}
theorem OpV.ptrO {α:Type} {K:Kd α} {o:Option α} {b:BinOp} {T u T':TypeId} {X:Operand} (hg:P.underlying T=some (.pointer T')) (hb:b= .eql∨b= .neq) (hX:ev E X=some (.val (dh K) o)):
   OpV P n E L ⟨some d,.binOp b T X (.const (.pointer none)) u,ty,pos,aft,none⟩ (.raw (.bool (if b= .eql then o.isNone else o.isSome))):=OpV.rawv fun F a hE w=>by
 have h2:a.eval (.const (.pointer none))= .pointer none:=rfl
 have hg':P.underlying T=some (.pointer (P.pointee T)):=by simp[Program.pointee,hg]
 have:=hE.eval hX
 simp only[SV.ok] at this
 rw[execOp]
 rcases gf this with⟨he,ho⟩|⟨x,p,ho,he,_⟩<;>subst ho<;>simp only[he,h2,eqGuard]<;>rcases hb with rfl|rfl
 · simp[run_eql_pointer_nil w T _ hg']
 · simp[run_neq_pointer_nil w T _ hg']
 · simp[run_eql_pointer_nil w T _ hg']
 · simp[run_neq_pointer_nil w T _ hg']
theorem Under.ptrS {α:Type} {K:Kd α} {o:Option α} {x:α} (t:Nat) {X:Act→World→Prop} (ho:o=some x) (h:look E t=some (.val (dh K) o)) (kk:Under F0 n ((t,.ptr K x)::E) L X):Under F0 n E L X:=fun F a w h0 hE hS=>by
 refine kk F a w h0 ⟨hE.defers,hE.size,fun u s e=>?_⟩ hS
 rw[ay] at e
 split at e
 · rename_i hk
   subst hk
   cases e
   obtain⟨v,h1,h2⟩:=hE.at_ _ _ h
   simp only[SV.ok] at h2
   rcases gf h2 with⟨_,hn⟩|⟨y,p,hy,he,r⟩
   · rw[ho] at hn;cases hn
   · rw[ho] at hy;cases hy
     exact⟨v,h1,by simp only[SV.ok];exact⟨p,he,r⟩⟩
 · exact hE.at_ u s e
end
end Go.Sim
namespace Go.Sim
open Go
section
variable {P:Program} {ops:Array Oper} {Q:Exit→Act→World→Prop} {rest:List Oper} {F0:Fz} {n:Nat} {E:List (Nat×SV)} {L:List Res}
variable {d:Nat} {op:Op} {ty:TypeId} {pos:String} {aft:Array Edge} {s:SV}
end
end Go.Sim
