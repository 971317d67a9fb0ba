import Derived.Test.YtobbmodjdkcdcaaGreatDoorSimC
import Derived.Scope
import Derived.Lib.ConvBytes
import Derived.Laws.AppendOwn
set_option linter.unusedVariables false
set_option linter.unusedSimpArgs false
namespace Go.Sim
open Go
section
variable {P:Program} {Q:Exit→Act→World→Prop} {F0:Fz} {n:Nat} {E:List (Nat×SV)} {L:List Res}
theorem Under.scope {c:Code} (k:Under F0 n E L (c.wp P (Exit.noGoto Q))):Under F0 n E L ((Code.scope c).wp P Q):=fun F a w h0 hE hS=>wp_scope_straight (k F a w h0 hE hS)
theorem Under.scR (k:Under F0 n E L (Q .ret)):Under F0 n E L (Exit.noGoto Q .ret):=k
theorem Under.label {l:Nat} (k:Under F0 n E L (Q .normal)):Under F0 n E L ((Code.label l).wp P Q):=fun F a w h0 hE hS=>wp_label (k F a w h0 hE hS)
end
def SvF (s:SV):Prop:=∀F G u,s.ok F u→s.ok G u
theorem SvF.raw {v:Value}:SvF (.raw v):=fun F G u h=>by simp only[SV.ok] at*;exact h
theorem SvF.val {α:Type} {K:Kd α} {x:α} (hK:Free K):SvF (.val K x):=fun F G u h=>by
 simp only[SV.ok] at*
 obtain⟨cs,a,b⟩:=h
 exact⟨cs,hK _ _ _ _ a,b⟩
def xe {α:Type} (v:Value) (K:Kd α) (xs:List α):List SV→List SV→Prop
 |[],[]=>True
 |a::l,b::l'=>(a=b∨(a= .raw v∧b= .val (kSl K) xs))∧xe v K xs l l'
 |_,_=>False
theorem rX {α:Type} {v:Value} {K:Kd α} {xs:List α} {F:Fz} (hv:(kSl K).val F v xs):∀{l l':List SV} {vs:List Value},xe v K xs l l'→SV.oks F vs l→SV.oks F vs l'
 |[],[],vs,_,h=>h
 |a::l,b::l',[],_,h=>by simp only[SV.oks] at h
 |a::l,b::l',u::vs,hl,h=>by
  simp only[SV.oks] at h⊢
  obtain⟨h1,h2⟩:=hl
  refine⟨?_,rX hv h2 h.2⟩
  rcases h1 with rfl|⟨rfl,rfl⟩
  · exact h.1
  · have:=h.1
    simp only[SV.ok] at this⊢
    subst this;exact hv
 |[],_::_,_,hl,_=>hl.elim
 |_::_,[],_,hl,_=>hl.elim
theorem rY {α:Type} {K:Kd α} {v:Value} {e:TypeId} {xs:List α} {F:Fz} {h:Frag} (hap:Apart F h) (hh:(Res.own K v e xs).holds (F.add h) h):(kSl K).val (F.add h) v xs:=by
 rcases hh with⟨rfl,rfl,_⟩|⟨g,cap,cur,rfl,rfl,h3,h4,h5,h6⟩
 · exact⟨[.slice none 0 0],⟨none,0,rfl,Nat.le_refl _,.inl rfl⟩,rfl⟩
 · refine⟨[.slice (some ⟨g,0,none⟩) xs.length cap],⟨_,cap,rfl,h3,.inr ⟨⟨g,0,none⟩,cur,e,(0,0),rfl,rfl,?_,?_,by simpa using h6⟩⟩,rfl⟩
   · have hg:F.blk g=none:=hap g (by rw[Frag.one_at];simp)
     simp only[Fz.add,hg];exact Frag.one_at _ _
   · have:xs.length*K.n≤cap*K.n:=Nat.mul_le_mul_right _ h3
     simp only;omega
def Fz.but (G F:Fz) (h:Frag) (hle:F≤G) (hap:Apart F h):Fz:={G with blk:=fun b=>match h b with|none=>G.blk b|some _=>none,glob:=⟨fun g k xs e=>by
 obtain⟨T,fr,q⟩:=F.glob.on g k xs e
 have h1:h g=none:=by
  cases hh:h g with
  |none=>rfl
  |some o=>have:=hap g (by rw[hh];simp);rw[this] at q;cases q
 exact⟨T,fr,by simp only[h1];exact hle.blk _ _ q⟩⟩}
theorem pV {α:Type} {K:Kd α} {v:Value} {e:TypeId} {xs:List α} {F G:Fz} {h:Frag} (hr:(Res.own K v e xs).holds F h) (hap:Apart F h) (hg:F.add h≤G):
   ∃B,F≤B∧(Res.own K v e xs).holds B h∧Apart B h∧B.add h=G:=by
 have hFG:F≤G:=Fz.tr (F.le_add h) hg
 have hFB:F≤G.but F h hFG hap:=⟨fun b o hb=>by
   have hb0:h b=none:=by
    cases hh:h b with
    |none=>rfl
    |some q=>have:=hap b (by rw[hh];simp);rw[this] at hb;cases hb
   simp only[Fz.but,hb0];exact hFG.blk _ _ hb,hFG.os,hFG.tape,hFG.output⟩
 refine⟨G.but F h hFG hap,hFB,Res.mono hFB hr,fun b hb=>?_,?_⟩
 · cases hh:h b with
   |none=>exact absurd hh hb
   |some q=>simp only[Fz.but,hh]
 · cases G with
   |mk blk os tape out glob=>
    simp only[Fz.but,Fz.add,Fz.mk.injEq,and_true]
    funext b
    cases hh:h b with
    |none=>simp only[];cases blk b<;>rfl
    |some q=>
     simp only[]
     have:(F.add h).blk b=some q:=by
      have hF:=hap b (by rw[hh];simp)
      simp only[Fz.add,hF];exact hh
     exact(hg.blk _ _ this).symm
theorem Ok.lend {P:Program} {f:FuncId} {α:Type} {K:Kd α} {v:Value} {e:TypeId} {xs:List α} {l l':List SV} {s:SV} {L:List Res} (ho:∀L,Ok P f l' L s L) (hl:xe v K xs l l') (hf:SvF s):
  Ok P f l (.own K v e xs::L) s (.own K v e xs::L):=fun F w vs hvs hS=>by
 obtain⟨h,hr,hap,hs'⟩:=hS
 have hle:F≤F.add h:=F.le_add h
 have h1:SV.oks (F.add h) vs l':=rX (rY hap (Res.mono hle hr)) hl (SV.oks_mono hle hvs)
 have h2:St (F.add h) w (L.map (Res.fix F)):=(StG.fix F (F.add h)).1 hs'
 refine(ho _ (F.add h) w vs h1 h2).mono fun e' w' ⟨G,u,he,hg,hS',hok⟩=>?_
 obtain⟨B,b1,b2,b3,b4⟩:=pV hr hap hg
 refine⟨B,u,he,b1,⟨h,b2,b3,?_⟩,hf _ _ _ hok⟩
 rw[b4]
 exact StG.mono b1 ((StG.fix F G).2 hS')
theorem OkX.lend {P:Program} {f:FuncId} {α:Type} {K:Kd α} {v:Value} {e:TypeId} {xs:List α} {l l':List SV} {C:Type} {s:C→SV} {r:C→Res} {L:List Res} (ho:∀L,OkX P f l' L s (fun y=>r y::L)) (hl:xe v K xs l l') (hf:∀y,SvF (s y)) (hq:∀y F G h,(r y).holds F h→(r y).holds G h):OkX P f l (.own K v e xs::L) s (fun y=> .own K v e xs::r y::L):=fun F w vs hvs hS=>by
 obtain⟨h,hr,hap,hs'⟩:=hS
 have hle:F≤F.add h:=F.le_add h
 have h1:SV.oks (F.add h) vs l':=rX (rY hap (Res.mono hle hr)) hl (SV.oks_mono hle hvs)
 have h2:St (F.add h) w (L.map (Res.fix F)):=(StG.fix F (F.add h)).1 hs'
 refine(ho _ (F.add h) w vs h1 h2).mono fun e' w' ⟨y,G,u,he,hg,hS',hok⟩=>?_
 obtain⟨B,b1,b2,b3,b4⟩:=pV hr hap hg
 obtain⟨k,k1,k2,k3⟩:=hS'
 refine⟨y,B,u,he,b1,⟨h,b2,b3,?_⟩,hf _ _ _ _ hok⟩
 rw[b4]
 exact⟨k,hq y _ _ _ k1,k2,StG.mono b1 ((StG.fix F G).2 k3)⟩
theorem vQ {α:Type} {K:Kd α} {F:Fz}:∀{xs:List α} {cs:List Value} {h:Nat},bo K F (cs.take (xs.length*K.n)) xs→h≤xs.length→bo K F (cs.take (h*K.n)) (xs.take h)
 |xs,cs,0,_,_=>by rw[Nat.zero_mul,List.take_zero,List.take_zero];exact rfl
 |[],cs,h+1,_,hh=>by simp at hh
 |x::xs,cs,h+1,hr,hh=>by
  obtain⟨c,d,e,a,b⟩:=hr
  have hc:=K.len a
  have e1:cs.take ((h+1)*K.n)=c++d.take (h*K.n):=by
   have h2:(h+1)*K.n≤(x::xs).length*K.n:=Nat.mul_le_mul_right _ hh
   have h3:cs.take ((h+1)*K.n)=(cs.take ((x::xs).length*K.n)).take ((h+1)*K.n):=by rw[List.take_take,Nat.min_eq_left h2]
   rw[h3,e,List.take_append,hc,Nat.succ_mul]
   have h4:h*K.n+K.n - K.n=h*K.n:=by omega
   rw[h4,List.take_of_length_le (by omega)]
  have h5:d=d.take (xs.length*K.n):=by
   have h6:=congrArg List.length e
   rw[List.length_append,List.length_take,hc,List.length_cons,Nat.succ_mul] at h6
   rw[List.take_of_length_le (by omega)]
  rw[e1]
  exact⟨c,_,rfl,a,vQ (by rw[←h5];exact b) (by simpa using hh)⟩
theorem Under.ownTrunc {F0:Fz} {n:Nat} {E:List (Nat×SV)} {L:List Res} {α:Type} {K:Kd α} {v:Value} {e:TypeId} {xs:List α} {h:Nat} {X:Act→World→Prop} (hh:h≤xs.length) (k:Under F0 n E (.own K (subV v 0 h K.n) e (xs.take h)::L) X):Under F0 n E (.own K v e xs::L) X:=fun F a w h0 hE hS=>
 k F a w h0 hE (hS.map fun f hf=>by
  rcases hf with⟨rfl,rfl,rfl⟩|⟨g,cap,cur,rfl,rfl,h3,h4,h5,h6⟩
  · have:h=0:=by simpa using hh
    subst this
    exact .inl ⟨rfl,rfl,rfl⟩
  · have hl:(xs.take h).length=h:=by rw[List.length_take,Nat.min_eq_left hh]
    refine .inr ⟨g,cap,cur,?_,rfl,by omega,h4,h5,by rw[hl];exact vQ h6 hh⟩
    rw[hl]
    unfold subV
    simp only[Nat.sub_zero]
    split<;>simp[Addr.add])
theorem Under.lendOv {P:Program} {ops:Array Oper} {Q:Exit→Act→World→Prop} {rest:List Oper} {F0:Fz} {n:Nat} {E:List (Nat×SV)} {L:List Res} {d:Nat} {op:Op} {ty:TypeId} {pos:String} {aft:Array Edge} {s:SV}
  {α:Type} {K:Kd α} {v:Value} {e:TypeId} {xs:List α} {t:Nat} (ho:∀L,OpV P n ((t,.val (kSl K) xs)::E) L ⟨some d,op,ty,pos,aft,none⟩ s) (ht:look E t=some (.raw v)) (hf:SvF s) (hd:Nat.blt d n=true)
  (k:Under F0 n ((d,s)::E) (.own K v e xs::L) (wpList P ops Q rest)):Under F0 n E (.own K v e xs::L) (wpList P ops Q (⟨some d,op,ty,pos,aft,none⟩::rest)):=
 Under.exec rfl fun F a w h0 hE hS=>by
  have hS0:=hS
  obtain⟨h,hr,hap,hs'⟩:=hS
  have hle:F≤F.add h:=F.le_add h
  have hval:=rY hap (Res.mono hle hr)
  have h2:St (F.add h) w (L.map (Res.fix F)):=(StG.fix F (F.add h)).1 hs'
  have hE':Env (F.add h) a n ((t,.val (kSl K) xs)::E):=⟨hE.defers,hE.size,fun u r hl=>by
   rw[cf] at hl;split at hl
   · rename_i hk;subst hk;cases hl
     obtain⟨v',h1,h3⟩:=hE.at_ t _ ht
     simp only[SV.ok] at h3;subst h3
     exact⟨_,h1,by simp only[SV.ok];exact hval⟩
   · exact(hE.mono hle).at_ u r hl⟩
  obtain⟨u,hu,this⟩:=ho (L.map (Res.fix F)) (F.add h) a hE'
  have this:=this w ⟨F.add h,Fz.rf _,h2⟩
  have hu':=hf _ F _ hu
  unfold Oper.quietAt at this
  unfold Oper.wp
  generalize (execOp a.eval (⟨some d,op,ty,pos,aft,none⟩:Oper)).run P w=r at this
  cases r with
  |halt x w'=>exact this.elim
  |ok nx w'=>
   cases nx<;>simp only[Oper.quietUpon] at this<;>simp only[Oper.upon]
   case value u=>obtain⟨rfl,rfl⟩:=this;exact k _ _ _ h0 (hE.put hd hu') hS0
   case skip=>obtain⟨rfl,rfl⟩:=this;exact k _ _ _ h0 (hE.put hd hu') hS0
   case enter f args=>
     obtain⟨rfl,hc⟩:=this
     exact hc.mono fun e w'' ⟨he,G,hg,hw⟩=>by
      subst he
      obtain⟨B,b1,b2,b3,b4⟩:=pV hr hap hg
      exact k B _ _ (Fz.tr h0 b1) ((hE.mono b1).put hd (SV.ok_mono b1 hu')) ⟨h,b2,b3,by rw[b4];exact StG.mono b1 ((StG.fix F G).2 hw)⟩
end Go.Sim
namespace Go.Sim
open Go
theorem sb {E E':List (Nat×SV)} (h:E'.map (fun p=>look E p.1)=E'.map (fun p=>some p.2)):∀t v,look E' t=some v→look E t=some v:=by
 induction E' with
 |nil=>exact jo E
 |cons p E' ih=>
  obtain⟨k,u⟩:=p
  simp only[List.map_cons,List.cons.injEq] at h
  exact aE h.1 (ih h.2)
def rZ:Nat→List Res→List Res→List Res
 |0,_,T=>T
 |k+1,r::l,T=>r::rZ k l T
 |_+1,[],T=>T
def xf:Nat→List Res→List Res
 |0,l=>l
 |k+1,_::l=>xf k l
 |_+1,[]=>[]
theorem od:∀(k:Nat) (l:List Res),rZ k l (xf k l)=l
 |0,_=>rfl
 |k+1,r::l=>by simp only[rZ,xf,od k l]
 |_+1,[]=>rfl
theorem sa:∀(k:Nat) (l:List Res) (r:Res) (T:List Res),(r::rZ k l T).Perm (rZ k l (r::T))
 |0,_,_,_=> .refl _
 |k+1,q::l,r,T=>(List.Perm.swap _ _ _).trans (.cons _ (sa k l r T))
 |_+1,[],_,_=> .refl _
section
variable {P:Program} {ops:Array Oper} {Q:Exit→Act→World→Prop} {rest:List Oper} {F0:Fz} {n:Nat} {E:List (Nat×SV)} {L:List Res}
variable {D:List Nat} {d:Nat} {op:Op} {ty:TypeId} {pos:String} {aft:Array Edge} {s:SV} {Lf:List Res→List Res} {tab:List Tok}
def zu (G:Fz) (L:List Res) (d:Nat) (s:SV):Act→World→Prop:=fun a w=>∃(H:Fz) (_:Value),G≤H∧(∃u,a.tmps[d]? =some u∧s.ok H u)∧St H w L∧a.defers=[]
def seqV (P:Program) (n:Nat) (Lf:List Res→List Res) (ops:Array Oper) (F0:Fz) (K:List (Nat×SV)→Prop):List (List Nat)→List Oper→List (Nat×SV)→Prop
 |us::p,o::l,E=>∃d s,o.dst=some d∧(∀G T,F0≤G→Under G n (fS us E) (Lf T) (wpList P ops (Exit.then (zu G (Lf T) d s) QF) [o]))∧seqV P n Lf ops F0 K p l ((d,s)::E)
 |[],[],E=>K E
 |_,_,_=>False
theorem zw {bs:Nat→Value} {K K':List (Nat×SV)→Prop} (hk:∀E,K E→K' E):∀{its:List It2} {p:List (List Nat)} {l:List Oper} {E:List (Nat×SV)} {j:Nat},seqT P n tab Lf ops F0 bs K j its p l E→seqT P n tab Lf ops F0 bs K' j its p l E
 |[],[],[],_,_,h=>hk _ h
 |_::_,_::_,_::_,_,_,h=>⟨h.1,zw hk h.2⟩
 |[],_::_,_,_,_,h=>by simp[seqT] at h
 |[],[],_::_,_,_,h=>by simp[seqT] at h
 |_::_,[],_,_,_,h=>by simp[seqT] at h
 |_::_,_::_,[],_,_,h=>by simp[seqT] at h
def plI (l:List SV):List It2:=l.map fun s=>⟨sk0 s,[],[],[]⟩
theorem zx {K:List (Nat×SV)→Prop}:∀{p:List (List Nat)} {l:List Oper} {E:List (Nat×SV)},seqV P n Lf ops F0 K p l E→∃vs:List SV,∀G,F0≤G→∀bs j,seqT P n [] Lf ops G bs K j (plI vs) p l E
 |[],[],E,h=>⟨[],fun _ _ _ _=>h⟩
 |us::p,o::l,E,h=>by
  obtain⟨d,s,hd,h1,h2⟩:=h
  obtain⟨vs,hv⟩:=zx h2
  refine⟨s::vs,fun G hG bs j=>⟨fun R hR G' T hG'=>?_,?_⟩⟩
  · simp only[iY,List.mem_singleton] at hR;subst hR
    rw[hd]
    exact h1 G' T (Fz.tr hG hG')
  · rw[hd];exact hv G hG bs (j+1)
 |[],_::_,_,h=>h.elim
 |_::_,[],_,h=>h.elim
theorem Vq.v {K:List (Nat×SV)→Prop} {us:List Nat} {p:List (List Nat)} {l:List Oper} {g:Option (Nat×Bool)} (h:∀G T,F0≤G→Under G n (fS us E) (Lf T) (wpList P ops (Exit.then (zu G (Lf T) d s) QF) [⟨some d,op,ty,pos,aft,g⟩])) (k:seqV P n Lf ops F0 K p l ((d,s)::E)):
 seqV P n Lf ops F0 K (us::p) (⟨some d,op,ty,pos,aft,g⟩::l) E:=⟨d,s,rfl,h,k⟩
theorem Vq.end (hd:look E d=some s):Under F0 n E L (wpList P ops (Exit.then (zu F0 L d s) QF) []):=fun F a w h0 hE hS=>⟨F,undef,h0,hE.at_ d _ hd,hS,hE.defers⟩
theorem vo {K:List (Nat×SV)→Prop} {us:List Nat} {p:List (List Nat)} {l:List Oper} (h:∀L,OpV P n (fS us E) L ⟨some d,op,ty,pos,aft,none⟩ s) (hd:Nat.blt d n=true) (k:seqV P n Lf ops F0 K p l ((d,s)::E)):
 seqV P n Lf ops F0 K (us::p) (⟨some d,op,ty,pos,aft,none⟩::l) E:=Vq.v (fun G T _=>Under.ov (h _) hd (Vq.end (by simp[look]))) k
theorem vm {K:List (Nat×SV)→Prop} {us:List Nat} {p:List (List Nat)} {l:List Oper} {x:Operand} (h:ev (fS us E) x=some s) (hd:Nat.blt d n=true) (k:seqV P n Lf ops F0 K p l ((d,s)::E)):
 seqV P n Lf ops F0 K (us::p) (⟨some d,.move x,ty,pos,aft,none⟩::l) E:=vo (fun _=>OpV.move h) hd k
theorem vb {K:List (Nat×SV)→Prop} {us:List Nat} {p:List (List Nat)} {l:List Oper} {b:BinOp} {i:IntKind} {x y:Int} {X Y:Operand} {t u:TypeId} {v:Value} (hX:ev (fS us E) X=some (.raw (.int i x))) (hY:ev (fS us E) Y=some (.raw (.int i y))) (hv:binI b i x y=some v) (hd:Nat.blt d n=true)
 (k:seqV P n Lf ops F0 K p l ((d,.raw v)::E)):seqV P n Lf ops F0 K (us::p) (⟨some d,.binOp b t X Y u,ty,pos,aft,none⟩::l) E:=vo (fun _=>OpV.bin hX hY hv) hd k
theorem vn {l:List Oper} (h:Under F0 n E L (kR P Q l D)):seqV P n Lf ops F0 (fun E'=>Under F0 n E' L (kR P Q l D)) [] [] E:=h
theorem xg:∀(vs:List SV) (j:Nat),tabF (plI vs) j=[]
 |[],_=>rfl
 |s::vs,j=>by simp only[plI,List.map_cons,tabF,List.map_nil,List.nil_append];exact xg vs (j+1)
theorem pr:∀vs:List SV,jL (plI vs)=[]
 |[]=>rfl
 |s::vs=>by have:=pr vs;simp only[jL,plI,List.map_cons,List.flatMap_cons,List.nil_append] at*;exact this
theorem vR (l:List Oper) (g:List Nat) (full:List It2) (hf:jL full=[]):∀(vs:List SV) (j:Nat),rS l g [] full (plI vs) j=true
 |[],_=>rfl
 |s::vs,j=>by
  have ih:=vR l g full hf vs (j+1)
  simp only[plI,List.map_cons,rS] at ih⊢
  rw[ih]
  simp[itB,sk0]
theorem Under.grpV {l:List Oper} {D:List Nat} (g:List Nat) (p:List (List Nat)) (k:Nat) (hB:qK l D g p=true) (hn:(pick l g).all (fun o=>match o.dst with|some d=>Nat.blt d n|none=>true)=true)
   (h:seqV P n (rZ k L) l.toArray F0 (fun E'=>Under F0 n E' L (kR P Q l (g++D))) p (pick l g) E):Under F0 n E L (kR P Q l D):=by
 obtain⟨vs,hv⟩:=zx h
 have e1:tabT [] (plI vs)=[]:=by simp only[tabT,List.map_nil,List.nil_append];exact xg vs 0
 refine Under.grpT (L0:=L) (L:=xf k L) g p (plI vs) [] (rZ k L) (sa k L) (od k L) hB ?_ hn (fun F hF bs=>?_)
 · simp only[tokB,e1,pr,vR l g _ (pr vs) vs 0];rfl
 · rw[e1,pr]
   refine zw (fun E' hk=>?_) (hv F hF bs 0)
   simp only[finT,List.nil_append,od]
   exact Under.le hF hk
theorem afr {x:Code} {K:Act→World→Prop} {R:Type} {r:R} (e:R→List (Nat×SV)) (l:R→List Res) (hk:Under F0 n (e r) (l r) K) (h:∀K',(∀x,r=x→Under F0 n (e x) (l x) K')→Under F0 n E L (x.wp P (Exit.then K' Q))):
 Under F0 n E L (x.wp P (Exit.then K Q)):=h K fun x hx=>hx▸hk
theorem lp [Fu] {S R C:Type} {step:S→Option (Ctl S R)} {x0:S} {r:R} {c:Code} (hrun:Loop.run step x0=some r) (c0:C) (Es:S→C→List (Nat×SV)) (Ls:S→C→List Res)
 (hE:(Es x0 c0).map (fun p=>look E p.1)=(Es x0 c0).map (fun p=>some p.2)) (hL:L=Ls x0 c0)
 (round:∀x y o,step x=some o→(∀q,o= .done q→q=r)→Under F0 n (Es x y) (Ls x y) (c.wp P (Exit.then (fun a w=>∃x' y' F,o= .next x'∧F0≤F∧Env F a n (Es x' y')∧St F w (Ls x' y')) Q))):
 Under F0 n E L ((Code.loop c).wp P Q):=Under.loop c0 Es Ls hrun (sb hE) hL round
theorem nx {S R C:Type} {o:Ctl S R} {Es:S→C→List (Nat×SV)} {Ls:S→C→List Res} {x':S} (y':C) (ho:(some (Ctl.next x'):Option (Ctl S R))=some o) (hE:(Es x' y').map (fun p=>look E p.1)=(Es x' y').map (fun p=>some p.2)) (hL:L=Ls x' y'):
 Under F0 n E L (fun a w=>∃x' y' F,o= .next x'∧F0≤F∧Env F a n (Es x' y')∧St F w (Ls x' y')):=Under.next x' y' ho (sb hE) hL
theorem wr {X:Act→World→Prop} {E':List (Nat×SV)} (k:Under F0 n E' L X) (hs:E'.map (fun p=>look E p.1)=E'.map (fun p=>some p.2)):Under F0 n E L X:=Under.weak k (sb hs)
theorem okI {f:FuncId} {fn:Func} {c:Code} {args:List SV} {L':List Res} (m:Nat) (hf:P.funcs[f]? =some fn) (hb:fn.body=some c) (hn:fn.ntmps=m) (hl:Nat.ble args.length m=true)
 (k:∀F0,Under F0 m (argE 0 args) L (c.wp P (bodyPost P fn fun e w'=>∃G v,e= .returned v∧F0≤G∧St G w' L'∧s.ok G v))):Ok P f args L s L':=Ok.intro m _ hf hb hn hl rfl k
end
abbrev sP:=@Under.stP
abbrev lP:=@Under.ldP
abbrev rI:=@Under.rawI
abbrev ca:=@Under.call
abbrev it:=@Under.ite
abbrev al:=@Under.al
abbrev fz:=@Under.frz
abbrev fzO:=@Under.frzO
abbrev f1:=@Under.fo1
abbrev f2:=@Under.fo2
abbrev f3:=@Under.fo3
abbrev f4:=@Under.fo4
abbrev ap:=@Under.app
abbrev tV:=@Under.toV
abbrev bO:=@Under.bsO
abbrev bF:=@Under.bsF
abbrev bX:=@Under.bxF
abbrev pn:=@Under.pn
abbrev p1:=@Under.p1
abbrev pd:=@Under.pdone
abbrev ph:=@Under.phases
abbrev gV:=@Under.grpV
abbrev rs:=@Under.rets
abbrev pb (b:Nat):SV:= .raw (.pointer (some ⟨b,0,none⟩))
abbrev i64 (x:Int):SV:= .raw (.int .i64 x)
theorem bs {α β:Type} {x:Option α} {f:α→Option β} {r:β} {G:Prop} (h:x.bind f=some r) (k:∀a,x=some a→f a=some r→G):G:=let ⟨a,b,c⟩:=bsome h;k a b c
theorem gs {c:Bool} {α:Type} {x:Option α} {r:α} {G:Prop} (h:(bif c then x else none)=some r) (k:c=true→x=some r→G):G:=let ⟨a,b⟩:=gsome h;k a b
section
variable {P:Program} {ops:Array Oper} {Q:Exit→Act→World→Prop} {rest:List Oper} {F0:Fz} {n:Nat} {E:List (Nat×SV)} {L:List Res}
variable {d e:Nat} {op:Op} {ty ty':TypeId} {pos pos':String} {aft aft':Array Edge} {s:SV}
theorem m_ {x:Operand} (h:(ev E x,Nat.blt d n)=(some s,true)) (k:Under F0 n ((d,s)::E) L (wpList P ops Q rest)):Under F0 n E L (wpList P ops Q (⟨some d,.move x,ty,pos,aft,none⟩::rest)):=mv (Prod.mk.inj h).1 (Prod.mk.inj h).2 k
theorem a_ {x:Operand} (h:(ev E x,Nat.blt d n)=(some s,true)) (k:Under F0 n ((d,s)::E) L (wpList P ops Q rest)):Under F0 n E L (wpList P ops Q (⟨some d,.assign x,ty,pos,aft,none⟩::rest)):=ag (Prod.mk.inj h).1 (Prod.mk.inj h).2 k
theorem b_ {b:BinOp} {i:IntKind} {x y:Int} {X Y:Operand} {t u:TypeId} {v:Value} (h:(ev E X,ev E Y,binI b i x y,Nat.blt d n)=(some (.raw (.int i x)),some (.raw (.int i y)),some v,true))
  (k:Under F0 n ((d,.raw v)::E) L (wpList P ops Q rest)):Under F0 n E L (wpList P ops Q (⟨some d,.binOp b t X Y u,ty,pos,aft,none⟩::rest)):=by
 simp only[Prod.mk.injEq] at h
 exact bn h.1 h.2.1 h.2.2.1 h.2.2.2 k
theorem mb {x:Operand} {b:BinOp} {i:IntKind} {p q:Int} {X Y:Operand} {t u:TypeId} {v:Value} (h:(ev E x,Nat.blt d n,ev ((d,s)::E) X,ev ((d,s)::E) Y,binI b i p q,Nat.blt e n)=(some s,true,some (.raw (.int i p)),some (.raw (.int i q)),some v,true))
  (k:Under F0 n ((e,.raw v)::(d,s)::E) L (wpList P ops Q rest)):Under F0 n E L (wpList P ops Q (⟨some d,.move x,ty,pos,aft,none⟩::⟨some e,.binOp b t X Y u,ty',pos',aft',none⟩::rest)):=by
 simp only[Prod.mk.injEq] at h
 exact mv h.1 h.2.1 (bn h.2.2.1 h.2.2.2.1 h.2.2.2.2.1 h.2.2.2.2.2 k)
theorem oL {α:Type} {K:Kd α} {T:TypeId} {X:Operand} {x:α} (hT:KT P T K) (h:(ev E X,Nat.blt d n)=(some (.ptr K x),true)) (k:Under F0 n ((d,.val K x)::E) L (wpList P ops Q rest)):Under F0 n E L (wpList P ops Q (⟨some d,.load T X,ty,pos,aft,none⟩::rest)):=
 Under.ov (OpV.ld hT (Prod.mk.inj h).1) (Prod.mk.inj h).2 k
theorem oI {i:IntKind} {T:TypeId} {X:Operand} {x:Int} (hT:KT P T (kInt i)) (h:(ev E X,Nat.blt d n)=(some (.ptr (kInt i) x),true)) (k:Under F0 n ((d,.raw (.int i x))::E) L (wpList P ops Q rest)):Under F0 n E L (wpList P ops Q (⟨some d,.load T X,ty,pos,aft,none⟩::rest)):=
 Under.ov (OpV.ldI hT (Prod.mk.inj h).1) (Prod.mk.inj h).2 k
theorem oE {X:Operand} {i:Nat} {l:List SV} (h:(ev E X,l[i]?,Nat.blt d n)=(some (.tup l),some s,true)) (k:Under F0 n ((d,s)::E) L (wpList P ops Q rest)):Under F0 n E L (wpList P ops Q (⟨some d,.extract X i,ty,pos,aft,none⟩::rest)):=by
 simp only[Prod.mk.injEq] at h
 exact Under.ov (OpV.extr h.1 h.2.1) h.2.2 k
theorem oN {α:Type} {K:Kd α} {xs:List α} {X:Operand} {t e:TypeId} (ht:P.underlying t=some (.slice e)) (h:(ev E X,Nat.blt d n)=(some (.val (kSl K) xs),true)) (k:Under F0 n ((d,.raw (.int .i64 xs.length))::E) L (wpList P ops Q rest)):
 Under F0 n E L (wpList P ops Q (⟨some d,.call ⟨.builtin .len,#[X],#[t]⟩,ty,pos,aft,none⟩::rest)):=Under.ov (OpV.len ht (Prod.mk.inj h).1 rdV) (Prod.mk.inj h).2 k
theorem oF {β:Type} {fs:List (Fld β)} {T:TypeId} {X:Operand} {i m:Nat} {x:β} {f:Fld β} (hT:fldB P T i=some (offF fs i,m+1)) (h:(ev E X,fs[i]?,Nat.blt d n)=(some (.ptr (kSt fs) x),some f,true)) (k:Under F0 n ((d,.ptr f.K (f.get x))::E) L (wpList P ops Q rest)):
  Under F0 n E L (wpList P ops Q (⟨some d,.fieldAddr T X i,ty,pos,aft,none⟩::rest)):=by
 simp only[Prod.mk.injEq] at h
 exact Under.ov (OpV.fd hT h.2.1 h.1) h.2.2 k
theorem oM {T:TypeId} {X:Operand} {i b off o m:Nat} (hT:fldB P T i=some (o,m+1)) (h:(ev E X,Nat.blt d n)=(some (.raw (.pointer (some ⟨b,off,none⟩))),true)) (k:Under F0 n ((d,.raw (.pointer (some ⟨b,off+o,none⟩)))::E) L (wpList P ops Q rest)):
 Under F0 n E L (wpList P ops Q (⟨some d,.fieldAddr T X i,ty,pos,aft,none⟩::rest)):=Under.ov (OpV.fdM hT (Prod.mk.inj h).1) (Prod.mk.inj h).2 k
theorem oX {α β:Type} {K0:Kd β} {K:Kd α} {b m:Nat} {r:Res} {R:β→Res} {x:β} {xs:List α} {up:List α→β} {z:α} {off:Nat} {T e:TypeId} {X I:Operand} {q:IntKind} {i:Int} (hb:Blk1 r R b K0 x) (p:At K0 x off (kArr m K) xs up)
  (hi:idx xs i=some z) (hT:P.underlying T=some (.array m e)) (hs:(P.info? e).map (·.size)=some K.n) (h:(ev E X,ev E I,Nat.blt d n)=(some (.raw (.pointer (some ⟨b,off,none⟩))),some (.raw (.int q i)),true))
  (k:Under F0 n ((d,.raw (.pointer (some ⟨b,off+i.toNat*K.n,none⟩)))::E) (r::L) (wpList P ops Q rest)):Under F0 n E (r::L) (wpList P ops Q (⟨some d,.indexAddr T X I,ty,pos,aft,none⟩::rest)):=by
 simp only[Prod.mk.injEq] at h
 exact Under.ov (OpV.ixP hb p hi hT hs h.1 h.2.1) h.2.2 k
theorem oS {α:Type} {K:Kd α} {T e:TypeId} {X I:Operand} {xs:List α} {x:α} {q:IntKind} {i:Int} (hx:idx xs i=some x) (hT:P.underlying T=some (.slice e)) (hs:(P.info? e).map (·.size)=some K.n)
  (h:(ev E X,ev E I,Nat.blt d n)=(some (.val (kSl K) xs),some (.raw (.int q i)),true)) (k:Under F0 n ((d,.ptr K x)::E) L (wpList P ops Q rest)):Under F0 n E L (wpList P ops Q (⟨some d,.indexAddr T X I,ty,pos,aft,none⟩::rest)):=by
 simp only[Prod.mk.injEq] at h
 exact Under.ov (OpV.ixS hx hT hs h.1 rdV h.2.1) h.2.2 k
theorem oC {i j:IntKind} {x:Int} {X:Operand} {q t:TypeId} (hs:(P.underlying q).isSome=true) (ht:P.underlying t=some (.int i)) (h:(ev E X,Nat.blt d n)=(some (.raw (.int j x)),true)) (k:Under F0 n ((d,.raw (.int i (i.wrap x)))::E) L (wpList P ops Q rest)):
 Under F0 n E L (wpList P ops Q (⟨some d,.convert q t X,ty,pos,aft,none⟩::rest)):=Under.ov (OpV.conv hs ht (Prod.mk.inj h).1) (Prod.mk.inj h).2 k
theorem cx {f:FuncId} {X:Operand} {xs:List Operand} {tys:Array TypeId} {l:List SV} {L':List Res} (hc:∀args w,(callFunc f args).run P w= .ok (.enter f args) w) (h:(ev E X,evs E xs,Nat.blt d n)=(some (.raw (.func (.func f) #[] #[])),some l,true)) (ho:Ok P f l L s L')
  (k:Under F0 n ((d,s)::E) L' (wpList P ops Q rest)):Under F0 n E L (wpList P ops Q (⟨some d,.call ⟨.value X,xs.toArray,tys⟩,ty,pos,aft,none⟩::rest)):=by
 simp only[Prod.mk.injEq] at h
 exact Under.call hc h.1 h.2.1 ho h.2.2 k
theorem gc_ {o:Option Nat} {g:Nat} {j:Nat} {b c:Bool} (hc:c=b) (h:((ops[j]?).bind (·.dst),look E g)=(some g,some (.raw (.bool c)))) (k:Under F0 n E L (wpList P ops Q (⟨o,op,ty,pos,aft,none⟩::rest))):
 Under F0 n E L (wpList P ops Q (⟨o,op,ty,pos,aft,some (j,b)⟩::rest)):=gc hc (Prod.mk.inj h).1 (Prod.mk.inj h).2 k
theorem sk_ {u g:Nat} {j:Nat} {b c:Bool} (hc:c= !b) (h:((ops[j]?).bind (·.dst),look E g,Nat.blt u n)=(some g,some (.raw (.bool c)),true)) (k:Under F0 n ((u,.raw undef)::E) L (wpList P ops Q rest)):
  Under F0 n E L (wpList P ops Q (⟨some u,op,ty,pos,aft,some (j,b)⟩::rest)):=by
 simp only[Prod.mk.injEq] at h
 exact sk hc h.1 h.2.1 h.2.2 k
theorem pT {c:Bool} {x y z:Operand} (hc:c=true) (h:(ev E x,ev E y,Nat.blt d n)=(some (.raw (.bool c)),some s,true)) (k:Under F0 n ((d,s)::E) L (wpList P ops Q rest)):Under F0 n E L (wpList P ops Q (⟨some d,.pick x y z,ty,pos,aft,none⟩::rest)):=by
 simp only[Prod.mk.injEq] at h
 exact Under.ov (pkT hc h.1 h.2.1) h.2.2 k
theorem pF {c:Bool} {x y z:Operand} (hc:c=false) (h:(ev E x,ev E z,Nat.blt d n)=(some (.raw (.bool c)),some s,true)) (k:Under F0 n ((d,s)::E) L (wpList P ops Q rest)):Under F0 n E L (wpList P ops Q (⟨some d,.pick x y z,ty,pos,aft,none⟩::rest)):=by
 simp only[Prod.mk.injEq] at h
 exact Under.ov (pkF hc h.1 h.2.1) h.2.2 k
theorem vm_ {Lf:List Res→List Res} {K:List (Nat×SV)→Prop} {us:List Nat} {p:List (List Nat)} {l:List Oper} {x:Operand} (h:(ev (fS us E) x,Nat.blt d n)=(some s,true)) (k:seqV P n Lf ops F0 K p l ((d,s)::E)):
 seqV P n Lf ops F0 K (us::p) (⟨some d,.move x,ty,pos,aft,none⟩::l) E:=vm (Prod.mk.inj h).1 (Prod.mk.inj h).2 k
theorem vb_ {Lf:List Res→List Res} {K:List (Nat×SV)→Prop} {us:List Nat} {p:List (List Nat)} {l:List Oper} {b:BinOp} {i:IntKind} {x y:Int} {X Y:Operand} {t u:TypeId} {v:Value} (h:(ev (fS us E) X,ev (fS us E) Y,binI b i x y,Nat.blt d n)=(some (.raw (.int i x)),some (.raw (.int i y)),some v,true))
  (k:seqV P n Lf ops F0 K p l ((d,.raw v)::E)):seqV P n Lf ops F0 K (us::p) (⟨some d,.binOp b t X Y u,ty,pos,aft,none⟩::l) E:=by
 simp only[Prod.mk.injEq] at h
 exact vb h.1 h.2.1 h.2.2.1 h.2.2.2 k
end
end Go.Sim
namespace Go.Sim
open Go
section
variable {P:Program} {ops:Array Oper} {Q:Exit→Act→World→Prop} {rest:List Oper} {F0:Fz} {n:Nat} {E:List (Nat×SV)} {L:List Res}
variable {d:Nat} {op:Op} {ty:TypeId} {pos:String} {aft:Array Edge} {s:SV}
end
end Go.Sim
namespace Go.Sim
open Go
section
variable {P:Program} {ops:Array Oper} {Q:Exit→Act→World→Prop} {rest:List Oper} {F0:Fz} {n:Nat} {E:List (Nat×SV)} {L:List Res}
variable {τ:Type} {KT:Kd τ} {TE TT:TypeId} {v:Value}
abbrev zy (KT:Kd τ) (TE TT:TypeId) (v:Value) (xs:List (List τ)):Res:=lH kRaw KT (fun(_:List τ) (q:Value)=>q) (fun x:List τ=>x) TE TT v xs
theorem qL:∀{xs:List (List τ)} {qs:List Value},qs.length=xs.length→List.zipWith (fun(_:List τ) (q:Value)=>q) xs qs=qs
 |[],[],_=>rfl
 |x::xs,q::qs,h=>by
  rw[List.zipWith_cons_cons,qL (by simpa using h)]
 |[],_::_,h=>by simp at h
 |_::_,[],h=>by simp at h
theorem St.nilIn {F:Fz} {w:World} (hs:St F w L):St F w (.own KT (.slice none 0 0) TT []::L):=by
 refine⟨Frag.emp,.inl ⟨rfl,rfl,rfl⟩,fun b hb=>absurd rfl hb,?_⟩
 rw[Fz.add_emp];exact hs
theorem St.nilsIn {F:Fz} {w:World} (hs:St F w L):∀m,St F w (owns KT (fun x:List τ=>x) TT (List.replicate m []) (List.replicate m (.slice none 0 0))++L)
 |0=>hs
 |m+1=>by
  have:=St.nilsIn hs m
  rw[List.replicate_succ,List.replicate_succ]
  exact St.nilIn (KT:=KT) (TT:=TT) this
theorem Under.rowsRep {m:Nat} {X:Act→World→Prop} (k:Under F0 n E (zy KT TE TT v (List.replicate m [])::L) X):Under F0 n E (.own kRaw v TE (List.replicate m (.slice none 0 0))::L) X:=fun F a w h0 hE hS=>by
 refine k F a w h0 hE (St.manyClose (qs:=List.replicate m (.slice none 0 0)) (by simp) ?_)
 rw[qL (by simp)]
 exact(St.nilsIn (KT:=KT) (TT:=TT) hS m).perm List.perm_middle
theorem Under.rowTake {X:Act→World→Prop} {xs:List (List τ)} {i:Int} {x:List τ} (hT:Free KT) (hi:idx xs i=some x)
   (k:∀(q:Value) (ys:List Value) (Rs:List Res),ys.length=xs.length→idx ys i=some q→
    (∀x' q' F w L',St F w (.own kRaw v TE (List.set ys i.toNat q'):: .own KT q' TT x'::(Rs++L'))→St F w (zy KT TE TT v (List.set xs i.toNat x')::L'))→
    Under F0 n E (.own kRaw v TE ys:: .own KT q TT x::(Rs++L)) X):Under F0 n E (zy KT TE TT v xs::L) X:=fun F a w h0 hE hS=>by
 obtain⟨qs,hl,hS2⟩:=hS.manyOpen Free.raw hT
 rw[qL hl] at hS2
 obtain⟨h1,h2,h3⟩:=gQ hi
 have hlt:i.toNat<xs.length:=(List.getElem?_eq_some_iff.1 h3).1
 have hltq:i.toNat<qs.length:=by omega
 have hx:xs[i.toNat]=x:=(List.getElem?_eq_some_iff.1 h3).2
 have spl:∀x' q',owns KT (fun x:List τ=>x) TT (xs.set i.toNat x') (qs.set i.toNat q')=owns KT (fun x:List τ=>x) TT (xs.take i.toNat) (qs.take i.toNat)++.own KT q' TT x'::owns KT (fun x:List τ=>x) TT (xs.drop (i.toNat+1)) (qs.drop (i.toNat+1)):=fun x' q'=>by
   unfold owns
   rw[List.set_eq_take_append_cons_drop,if_pos hlt,List.set_eq_take_append_cons_drop,if_pos hltq]
   rw[List.zipWith_append (by simp;omega)]
   rfl
 have self:xs.set i.toNat x=xs:=by rw[←hx];simp
 have selfq:qs.set i.toNat qs[i.toNat]=qs:=by simp
 have spl0:=spl x qs[i.toNat]
 rw[self,selfq] at spl0
 rw[spl0] at hS2
 refine k qs[i.toNat] qs (owns KT (fun x:List τ=>x) TT (xs.take i.toNat) (qs.take i.toNat)++owns KT (fun x:List τ=>x) TT (xs.drop (i.toNat+1)) (qs.drop (i.toNat+1))) hl ?_ (fun x' q' F w L' h=>?_) F a w h0 hE (hS2.perm ?_)
 · unfold idx
   rw[if_pos h1];simp[hltq]
 · refine St.manyClose (qs:=qs.set i.toNat q') (by simp[hl]) ?_
   rw[qL (by simp[hl]),spl x' q']
   refine h.perm (List.Perm.cons _ ?_)
   simp only[List.append_assoc,List.cons_append]
   exact List.perm_middle.symm
 · refine List.Perm.cons _ ?_
   simp only[List.append_assoc,List.cons_append]
   exact List.perm_middle
end
end Go.Sim
namespace Go.Sim
open Go
section
variable {P:Program} {ops:Array Oper} {Q:Exit→Act→World→Prop} {rest:List Oper} {F0:Fz} {n:Nat} {E:List (Nat×SV)} {L:List Res}
variable {d:Nat} {op:Op} {ty:TypeId} {pos:String} {aft:Array Edge} {s:SV}
end
end Go.Sim
namespace Go.Sim
open Go
section
variable {P:Program} {ops:Array Oper} {Q:Exit→Act→World→Prop} {rest:List Oper} {F0:Fz} {n:Nat} {E:List (Nat×SV)} {L:List Res}
variable {d:Nat} {op:Op} {ty:TypeId} {pos:String} {aft:Array Edge} {s:SV}
end
end Go.Sim
