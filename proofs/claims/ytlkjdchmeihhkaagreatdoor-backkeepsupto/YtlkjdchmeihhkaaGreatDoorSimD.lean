import Derived.Test.YtlkjdchmeihhkaaGreatDoorSimC
import Derived.Scope
import Derived.Lib.ConvBytes
import Derived.Laws.AppendOwn
set_option linter.all false
set_option autoImplicit true
set_option relaxedAutoImplicit true
set_option autoImplicit true
set_option relaxedAutoImplicit true
namespace Go.Sim
open Go
section
variable {P:Program} {Q:Exit→Act→World→Prop} {F0:Fz} {n:Nat} {E:List (Nat×SV)} {L:List bx}
theorem aC.scope {c:Code} (k:aC F0 n E L (c.wp P (Exit.noGoto Q))):aC F0 n E L ((Code.scope c).wp P Q):=λF a w h0 hE hS=>wp_scope_straight (k F a w h0 hE hS)
theorem NQ (k:aC F0 n E L (Q .ret)):aC F0 n E L (Exit.noGoto Q .ret):=k
theorem aC.label (k:aC F0 n E L (Q .normal)):aC F0 n E L ((Code.label l).wp P Q):=λF a w h0 hE hS=>wp_label (k F a w h0 hE hS)
end
def xK (s:SV):Prop:=∀F G u,s.ok F u→s.ok G u
theorem xK.raw:xK (.raw v):=λF G u h=>by simp only[SV.ok] at*;exact h
theorem xK.val (hK:cN K):xK (.val K x):=λF G u h=>by simp only[SV.ok] at*;obtain⟨cs,a,b⟩:=h;exact⟨cs,hK _ _ _ _ a,b⟩
def LA:=@xK.val
def CT {α:Type} (v:Value) (K:Kd α) (xs:List α):List SV→List SV→Prop|[],[]=>True|a::l,b::l'=>(a=b∨(a= .raw v∧b= .val (bE K) xs))∧CT v K xs l l'|_,_=>False
theorem wZ (hv:(bE K).val F v xs):∀{l l':List SV} {vs:List Value},CT v K xs l l'→SV.oks F vs l→SV.oks F vs l'|[],[],vs,_,h=>h|a::l,b::l',[],_,h=>by simp only[SV.oks] at h|a::l,b::l',u::vs,hl,h=>by simp only[SV.oks] at h⊢;obtain⟨h1,h2⟩:=hl;refine⟨?_,wZ hv h2 h.2⟩;rcases h1 with rfl|⟨rfl,rfl⟩;exact h.1;have:=h.1;simp only[SV.ok] at this⊢;subst this;exact hv|[],_::_,_,hl,_=>hl.elim|_::_,[],_,hl,_=>hl.elim
theorem w3 {K:Kd α} {xs:List α} {F:Fz} (a:o_ F h) (hh:(bx.own K v e xs).holds (F.add h) h):(bE K).val (F.add h) v xs:=by rcases hh with⟨rfl,rfl,_⟩|⟨g,cap,cur,rfl,rfl,h3,h4,h5,h6⟩;exact⟨[.slice none 0 0],⟨none,0,rfl,GZ _,.inl rfl⟩,rfl⟩;refine⟨[.slice (some ⟨g,0,none⟩) xs.length cap],⟨_,cap,rfl,h3,.inr ⟨⟨g,0,none⟩,cur,e,(0,0),rfl,rfl,?_,?_,by simpa using h6⟩⟩,rfl⟩;have hg:F.blk g=none:=a g (by rw[J8];simp);simp only[Fz.add,hg];exact J8 _ _;have:xs.length*K.n≤cap*K.n:=GI _ h3;simp only;omega
def Fz.but (G F:Fz) (h:bM) (a:F≤G) (c:o_ F h):Fz:={G with blk:=λb=>match h b with|none=>G.blk b|some _=>none,glob:=⟨λg k xs e=>by obtain⟨T,fr,q⟩:=F.glob.on g k xs e;(have h1:h g=none:=by cases hh:h g with|none=>rfl|some o=>have:=c g (by rw[hh];simp);rw[this] at q;cases q);exact⟨T,fr,by simp only[h1];exact a.blk _ _ q⟩⟩}
theorem qo {F G:Fz} (hr:(bx.own K v e xs).holds F h) (c:o_ F h) (hg:F.add h≤G):∃B,F≤B∧(bx.own K v e xs).holds B h∧o_ B h∧B.add h=G:=by have a:F≤G:=Lk (F.le_add h) hg;have d:F≤G.but F h a c:=⟨λb o hb=>by(have f:h b=none:=by cases hh:h b with|none=>rfl|some q=>have:=c b (by rw[hh];simp);rw[this] at hb;cases hb);simp only[Fz.but,f];exact a.blk _ _ hb,a.os,a.tape,a.output⟩;refine⟨G.but F h a c,d,bx.mono d hr,λb hb=>?_,?_⟩;(cases hh:h b with|none=>exact absurd hh hb|some q=>simp only[Fz.but,hh]);cases G with|mk blk os tape i g=>simp only[Fz.but,Fz.add,Fz.mk.injEq,Je];funext b;cases hh:h b with|none=>simp only[];cases blk b<;>rfl|some q=>simp only[];(have:(F.add h).blk b=some q:=by have hF:=c b (by rw[hh];simp);simp only[Fz.add,hF];exact hh);exact(hg.blk _ _ this).symm
theorem LV {L:List bx} (ho:∀L,Ok P f l' L s L) (hl:CT v K xs l l') (hf:xK s):Ok P f l (.own K v e xs::L) s (.own K v e xs::L):=λF w vs c hS=>by obtain⟨h,hr,a,d⟩:=hS;have b:F≤F.add h:=F.le_add h;have h1:SV.oks (F.add h) vs l':=wZ (w3 a (bx.mono b hr)) hl (Lv b c);have h2:St (F.add h) w (L.map (bx.fix F)):=(LC F (F.add h)).1 d;refine(ho _ (F.add h) w vs h1 h2).mono λe' w' ⟨G,u,he,hg,g,i⟩=>?_;obtain⟨B,b1,b2,b3,b4⟩:=qo hr a hg;refine⟨B,u,he,b1,⟨h,b2,b3,?_⟩,hf _ _ _ i⟩;rw[b4];exact mC.mono b1 ((LC F G).2 g)
theorem N1 {P:Program} {f:FuncId} {α:Type} {K:Kd α} {v:Value} {e:TypeId} {xs:List α} {l l':List SV} {C:Type} {s:C→SV} {r:C→bx} {L:List bx} (ho:∀L,xL P f l' L s (λy=>r y::L)) (hl:CT v K xs l l') (hf:∀y,xK (s y)) (hq:∀y F G h,(r y).holds F h→(r y).holds G h):xL P f l (.own K v e xs::L) s (λy=> .own K v e xs::r y::L):=λF w vs c hS=>by obtain⟨h,hr,a,d⟩:=hS;have b:F≤F.add h:=F.le_add h;have h1:SV.oks (F.add h) vs l':=wZ (w3 a (bx.mono b hr)) hl (Lv b c);have h2:St (F.add h) w (L.map (bx.fix F)):=(LC F (F.add h)).1 d;refine(ho _ (F.add h) w vs h1 h2).mono λe' w' ⟨y,G,u,he,hg,hS',g⟩=>?_;obtain⟨B,b1,b2,b3,b4⟩:=qo hr a hg;obtain⟨k,k1,k2,k3⟩:=hS';refine⟨y,B,u,he,b1,⟨h,b2,b3,?_⟩,hf _ _ _ _ g⟩;rw[b4];exact⟨k,hq y _ _ _ k1,k2,mC.mono b1 ((LC F G).2 k3)⟩
theorem Br {K:Kd α}:∀{xs:List α} {cs:List Value} {h:Nat},cr K F (cs.take (xs.length*K.n)) xs→h≤xs.length→cr K F (cs.take (h*K.n)) (xs.take h)|xs,cs,0,_,_=>by rw[JY,Ia,Ia];exact rfl|[],cs,h+1,_,hh=>by simp at hh|x::xs,cs,h+1,hr,hh=>by obtain⟨c,d,e,a,b⟩:=hr;have hc:=K.len a;(have e1:cs.take ((h+1)*K.n)=c++d.take (h*K.n):=by have h2:(h+1)*K.n≤(x::xs).length*K.n:=GI _ hh;(have h3:cs.take ((h+1)*K.n)=(cs.take ((x::xs).length*K.n)).take ((h+1)*K.n):=by rw[IG,Hy h2]);rw[h3,e,List.take_append,hc,Hl];(have h4:h*K.n+K.n - K.n=h*K.n:=by omega);rw[h4,GN (by omega)]);(have h5:d=d.take (xs.length*K.n):=by have h6:=congrArg List.length e;rw[GD,G4,hc,GT,Hl] at h6;rw[GN (by omega)]);rw[e1];exact⟨c,_,rfl,a,Br (by rw[←h5];exact b) (by simpa using hh)⟩
theorem MH {K:Kd α} {xs:List α} (hh:h≤xs.length) (k:aC F0 n E (.own K (vD v 0 h K.n) e (xs.take h)::L) X):aC F0 n E (.own K v e xs::L) X:=λF a w h0 hE hS=>k F a w h0 hE (hS.map λf hf=>by rcases hf with⟨rfl,rfl,rfl⟩|⟨g,cap,cur,rfl,rfl,h3,h4,h5,h6⟩;(have:h=0:=by simpa using hh);subst this;exact .inl ⟨rfl,rfl,rfl⟩;(have hl:(xs.take h).length=h:=by rw[G4,Hy hh]);refine .inr ⟨g,cap,cur,?_,rfl,by omega,h4,h5,by rw[hl];exact Br h6 hh⟩;rw[hl];unfold vD;simp only[Jl];split<;>simp[Addr.add])
theorem LL {L:List bx}
      (ho:∀L,dH P n ((t,.val (bE K) xs)::E) L ⟨some d,op,ty,pos,aft,none⟩ s) (ht:look E t=some (.raw v)) (hf:xK s) (hd:Nat.blt d n=true)
  (k:aC F0 n ((d,s)::E) (.own K v e xs::L) (wpList P ops Q rest)):aC F0 n E (.own K v e xs::L) (wpList P ops Q (⟨some d,op,ty,pos,aft,none⟩::rest)):=
 Kq rfl λF a w h0 hE hS=>by
  have hS0:=hS
  obtain⟨h,hr,hap,hs'⟩:=hS
  have hle:F≤F.add h:=F.le_add h
  have hval:=w3 hap (bx.mono hle hr)
  have h2:St (F.add h) w (L.map (bx.fix F)):=(LC F (F.add h)).1 hs'
  have hE':Env (F.add h) a n ((t,.val (bE K) xs)::E):=⟨hE.defers,hE.size,λu r hl=>by
   rw[cZ] at hl;split at hl
   · rename_i hk;subst hk;cases hl
     obtain⟨v',h1,h3⟩:=hE.at_ t _ ht
     simp only[SV.ok] at h3;subst h3
     exact⟨_,h1,by simp only[SV.ok];exact hval⟩
   · exact(hE.mono hle).at_ u r hl⟩
  obtain⟨u,hu,this⟩:=ho (L.map (bx.fix F)) (F.add h) a hE'
  have this:=this w ⟨F.add h,LO _,h2⟩
  have hu':=hf _ F _ hu
  unfold Oper.quietAt at this
  unfold Oper.wp
  generalize (execOp a.eval (⟨some d,op,ty,pos,aft,none⟩:Oper)).run P w=r at this
  cases r with
  |halt x w'=>exact this.elim
  |ok nx w'=>
   cases nx<;>simp only[Oper.quietUpon] at this<;>simp only[Oper.upon]
   case value u=>obtain⟨rfl,rfl⟩:=this;exact k _ _ _ h0 (hE.put hd hu') hS0
   case skip=>obtain⟨rfl,rfl⟩:=this;exact k _ _ _ h0 (hE.put hd hu') hS0
   case enter f args=>
     obtain⟨rfl,hc⟩:=this
     exact hc.mono λe w'' ⟨he,G,hg,hw⟩=>by
      subst he
      obtain⟨B,b1,b2,b3,b4⟩:=qo hr hap hg
      exact k B _ _ (Lk h0 b1) ((hE.mono b1).put hd (Lo b1 hu')) ⟨h,b2,b3,by rw[b4];exact mC.mono b1 ((LC F G).2 hw)⟩
theorem Nr {P:Program} {f:Array Oper} {Q:Exit→Act→World→Prop} {e:List Oper} {F0:Fz} {n:Nat} {E:List (Nat×SV)} {L:List bx} {d:Nat} {ty:TypeId} {pos:String} {aft:Array Edge} {α β:Type} [BEq α] {K:Kd α} {V:Kd β} {T kt et:TypeId} {b:Nat} {ps:List (α×β)} {M X:Operand} {x:α} {z:β} {s1:SV} (hk:zJ P kt K) (hT:P.underlying T=some (.map kt et)) (hz:ZV P et V z) (hM:ev E M=some (.raw (.map (some b)))) (hX:ev E X=some s1) (h1:dK s1 K x) (hd:Nat.blt d n=true) (k:aC F0 n ((d,.tup [.val V (dm x ps z),.raw (.bool (gL x ps).isSome)])::E) (.mp K V b ps::L) (wpList P f Q e)):aC F0 n E (.mp K V b ps::L) (wpList P f Q (⟨some d,.lookup T M X true,ty,pos,aft,none⟩::e)):=Kq rfl λF a w h0 hE hS=>by obtain⟨h,⟨es,c,⟨i,hst⟩,rfl⟩,hon⟩:=hS.head;have hb:w.heap[b]? =some (.map es c):=hon b _ (J8 _ _);obtain⟨v,hv,hr⟩:=tu hk hT hz i (h1 F _ (hE.eval hX));have g:=(hr w (some b) ⟨c,hb⟩).2;unfold Oper.wp;simp only[execOp,hE.raw hM,g,GK,GE,GR,Oper.upon];exact k F _ _ h0 (hE.put hd (by simp only[SV.ok];exact⟨[v,.bool (gL x ps).isSome],rfl,by simp only[SV.oks,SV.ok];exact⟨hv,trivial,trivial⟩⟩)) hS
theorem Vs:∀r T,(r::(λT:List bx=>r1::r2::r3::r4::r5::T) T).Perm ((λT:List bx=>r1::r2::r3::r4::r5::T) (r::T)):=λ_ _=>((List.Perm.swap _ _ _).trans (List.Perm.cons _ ((List.Perm.swap _ _ _).trans (List.Perm.cons _ ((List.Perm.swap _ _ _).trans (List.Perm.cons _ ((List.Perm.swap _ _ _).trans (List.Perm.cons _ (List.Perm.swap _ _ _)))))))))
theorem VA:∀r T,(r::(λT:List bx=>r1::r2::r3::r4::r5::r6::r7::T) T).Perm ((λT:List bx=>r1::r2::r3::r4::r5::r6::r7::T) (r::T)):=λ_ _=>((List.Perm.swap _ _ _).trans (List.Perm.cons _ ((List.Perm.swap _ _ _).trans (List.Perm.cons _ ((List.Perm.swap _ _ _).trans (List.Perm.cons _ ((List.Perm.swap _ _ _).trans (List.Perm.cons _ ((List.Perm.swap _ _ _).trans (List.Perm.cons _ ((List.Perm.swap _ _ _).trans (List.Perm.cons _ (List.Perm.swap _ _ _)))))))))))))
end Go.Sim
namespace Go.Sim
open Go
theorem sb {E':List (Nat×SV)} (h:E'.map (λp=>look E p.1)=E'.map (λp=>some p.2)):∀t v,look E' t=some v→look E t=some v:=by induction E' with|nil=>exact l7 E|cons p E' ih=>obtain⟨k,u⟩:=p;simp only[G6,List.cons.injEq] at h;exact cF h.1 (ih h.2)
def w4:Nat→List bx→List bx→List bx|0,_,T=>T|k+1,r::l,T=>r::w4 k l T|_+1,[],T=>T
def CU:Nat→List bx→List bx|0,l=>l|k+1,_::l=>CU k l|_+1,[]=>[]
theorem rr:∀(k:Nat) (l:List bx),w4 k l (CU k l)=l|0,_=>rfl|k+1,r::l=>by simp only[w4,CU,rr k l]|_+1,[]=>rfl
theorem w5:∀(k:Nat) (l:List bx) (r:bx) (T:List bx),(r::w4 k l T).Perm (w4 k l (r::T))|0,_,_,_=> .refl _|k+1,q::l,r,T=>(List.Perm.swap _ _ _).trans (.cons _ (w5 k l r T))|_+1,[],_,_=> .refl _
section
variable {P:Program} {ops:Array Oper} {Q:Exit→Act→World→Prop} {rest:List Oper} {F0:Fz} {n:Nat} {E:List (Nat×SV)} {L:List bx}
variable {D:List Nat} {d:Nat} {op:Op} {ty:TypeId} {pos:String} {aft:Array Edge} {s:SV} {Lf:List bx→List bx} {tab:List uB}
def EX (G:Fz) (L:List bx) (d:Nat) (s:SV):Act→World→Prop:=λa w=>∃(H:Fz) (_:Value),G≤H∧(∃u,a.tmps[d]? =some u∧s.ok H u)∧St H w L∧a.defers=[]
def rH (P:Program) (n:Nat) (Lf:List bx→List bx) (a:Array Oper) (F0:Fz) (K:List (Nat×SV)→Prop):List (List Nat)→List Oper→List (Nat×SV)→Prop|us::p,o::l,E=>∃d s,o.dst=some d∧(∀G T,F0≤G→aC G n (gW us E) (Lf T) (wpList P a (Exit.then (EX G (Lf T) d s) QF) [o]))∧rH P n Lf a F0 K p l ((d,s)::E)|[],[],E=>K E|_,_,_=>False
theorem EY (hk:∀E,K E→K' E):∀{its:List qB} {p:List (List Nat)} {l:List Oper} {E:List (Nat×SV)} {j:Nat},k9 P n tab Lf a F0 bs K j its p l E→k9 P n tab Lf a F0 bs K' j its p l E|[],[],[],_,_,h=>hk _ h|_::_,_::_,_::_,_,_,h=>⟨h.1,EY hk h.2⟩|[],_::_,_,_,_,h=>by simp[k9] at h|[],[],_::_,_,_,h=>by simp[k9] at h|_::_,[],_,_,_,h=>by simp[k9] at h|_::_,_::_,[],_,_,h=>by simp[k9] at h
def QJ (l:List SV):List qB:=l.map λs=>⟨bG s,[],[],[]⟩
theorem EZ:∀{p:List (List Nat)} {l:List Oper} {E:List (Nat×SV)},rH P n Lf a F0 K p l E→∃vs:List SV,∀G,F0≤G→∀bs j,k9 P n [] Lf a G bs K j (QJ vs) p l E|[],[],E,h=>⟨[],λ_ _ _ _=>h⟩|us::p,o::l,E,h=>by obtain⟨d,s,hd,h1,h2⟩:=h;obtain⟨vs,hv⟩:=EZ h2;refine⟨s::vs,λG hG bs j=>⟨λR hR G' T b=>?_,?_⟩⟩;simp only[kT,Hp] at hR;subst hR;rw[hd];exact h1 G' T (Lk hG b);rw[hd];exact hv G hG bs (j+1)|[],_::_,_,h=>h.elim|_::_,[],_,h=>h.elim
theorem Vq.v (h:∀G T,F0≤G→aC G n (gW us E) (Lf T) (wpList P a (Exit.then (EX G (Lf T) d s) QF) [⟨some d,op,ty,pos,aft,g⟩])) (k:rH P n Lf a F0 K p l ((d,s)::E)):rH P n Lf a F0 K (us::p) (⟨some d,op,ty,pos,aft,g⟩::l) E:=⟨d,s,rfl,h,k⟩
def Kp:=@Vq.v
theorem J9 (hd:look E d=some s):aC F0 n E L (wpList P b (Exit.then (EX F0 L d s) QF) []):=λF a w h0 hE hS=>⟨F,undef,h0,hE.at_ d _ hd,hS,hE.defers⟩
theorem vo (h:∀L,dH P n (gW us E) L ⟨some d,op,ty,pos,aft,none⟩ s) (hd:Nat.blt d n=true) (k:rH P n Lf a F0 K p l ((d,s)::E)):rH P n Lf a F0 K (us::p) (⟨some d,op,ty,pos,aft,none⟩::l) E:=Kp (λG T _=>KQ (h _) hd (J9 (by simp[look]))) k
theorem vm (h:ev (gW us E) x=some s) (hd:Nat.blt d n=true) (k:rH P n Lf a F0 K p l ((d,s)::E)):rH P n Lf a F0 K (us::p) (⟨some d,.move x,ty,pos,aft,none⟩::l) E:=vo (λ_=>dH.move h) hd k
theorem vb (hX:ev (gW us E) X=some (.raw (.int i x))) (hY:ev (gW us E) Y=some (.raw (.int i y))) (hv:zE b i x y=some v) (hd:Nat.blt d n=true) (k:rH P n Lf a F0 K p l ((d,.raw v)::E)):rH P n Lf a F0 K (us::p) (⟨some d,.binOp b t X Y u,ty,pos,aft,none⟩::l) E:=vo (λ_=>M3 hX hY hv) hd k
theorem vn (h:aC F0 n E L (m8 P Q l D)):rH P n Lf a F0 (λE'=>aC F0 n E' L (m8 P Q l D)) [] [] E:=h
theorem CV:∀(vs:List SV) (j:Nat),OM (QJ vs) j=[]|[],_=>rfl|s::vs,j=>by simp only[QJ,G6,OM,If,GS];exact CV vs (j+1)
theorem sH:∀vs:List SV,lX (QJ vs)=[]|[]=>rfl|s::vs=>by have:=sH vs;simp only[lX,QJ,G6,Hx,GS] at*;exact this
theorem Bs (l:List Oper) (g:List Nat) (a:List qB) (hf:lX a=[]):∀(vs:List SV) (j:Nat),wU l g [] a (QJ vs) j=true|[],_=>rfl|s::vs,j=>by have ih:=Bs l g a hf vs (j+1);simp only[QJ,G6,wU] at ih⊢;rw[ih];simp[Ro,bG]
theorem Ns {l:List Oper} (g:List Nat) (p:List (List Nat)) (k:Nat) (hB:uS l D g p=true) (hn:(pick l g).all (λo=>match o.dst with|some d=>Nat.blt d n|none=>true)=true) (h:rH P n (w4 k L) l.toArray F0 (λE'=>aC F0 n E' L (m8 P Q l (g++D))) p (pick l g) E):aC F0 n E L (m8 P Q l D):=by obtain⟨vs,hv⟩:=EZ h;(have e1:hP [] (QJ vs)=[]:=by simp only[hP,If,GS];exact CV vs 0);refine Kn (L0:=L) (L:=CU k L) g p (QJ vs) [] (w4 k L) (w5 k L) (rr k L) hB ?_ hn (λF hF bs=>?_);simp only[P6,e1,sH,Bs l g _ (sH vs) vs 0];rfl;rw[e1,sH];refine EY (λE' hk=>?_) (hv F hF bs 0);simp only[OB,GS,rr];exact Kr hF hk
theorem eJ {x:Code} (e:R→List (Nat×SV)) (l:R→List bx) (hk:aC F0 n (e r) (l r) K) (h:∀K',(∀x,r=x→aC F0 n (e x) (l x) K')→aC F0 n E L (x.wp P (Exit.then K' Q))):aC F0 n E L (x.wp P (Exit.then K Q)):=h K λx hx=>hx▸hk
theorem lp [Fu] {S R C:Type} {step:S→Option (md S R)} {x0:S} {r:R} {c:Code} (d:Loop.run step x0=some r) (c0:C) (Es:S→C→List (Nat×SV)) (Ls:S→C→List bx) (hE:(Es x0 c0).map (λp=>look E p.1)=(Es x0 c0).map (λp=>some p.2)) (hL:L=Ls x0 c0) (b:∀x y o,step x=some o→(∀q,o= .done q→q=r)→aC F0 n (Es x y) (Ls x y) (c.wp P (Exit.then (λa w=>∃x' y' F,o= .next x'∧F0≤F∧Env F a n (Es x' y')∧St F w (Ls x' y')) Q))):aC F0 n E L ((Code.loop c).wp P Q):=aC.loop c0 Es Ls d (sb hE) hL b
theorem nx {S R C:Type} {o:md S R} {Es:S→C→List (Nat×SV)} {Ls:S→C→List bx} {x':S} (y':C) (ho:(some (md.next x'):Option (md S R))=some o) (hE:(Es x' y').map (λp=>look E p.1)=(Es x' y').map (λp=>some p.2)) (hL:L=Ls x' y'):aC F0 n E L (λa w=>∃x' y' F,o= .next x'∧F0≤F∧Env F a n (Es x' y')∧St F w (Ls x' y')):=aC.next x' y' ho (sb hE) hL
theorem wr {E':List (Nat×SV)} (k:aC F0 n E' L X) (hs:E'.map (λp=>look E p.1)=E'.map (λp=>some p.2)):aC F0 n E L X:=Nl k (sb hs)
theorem cK {fn:Func} {c:Code} {a:List SV} (m:Nat) (hf:P.funcs[f]? =some fn) (hb:fn.body=some c) (hn:fn.ntmps=m) (hl:Nat.ble a.length m=true) (k:∀F0,aC F0 m (Pg 0 a) L (c.wp P (bodyPost P fn λe w'=>∃G v,e= .returned v∧F0≤G∧St G w' L'∧s.ok G v))):Ok P f a L s L':=Ok.intro m _ hf hb hn hl rfl k
end
abbrev sP:=@NO
abbrev lP:=@NN
abbrev rI:=@Nk
abbrev ca:=@aC.call
abbrev it:=@NC
abbrev al:=@NS
abbrev fz:=@NE
abbrev k8:=@Nn
abbrev f1:=@Mo
abbrev f2:=@MR
abbrev f3:=@MS
abbrev f4:=@MT
abbrev ap:=@aC.app
abbrev tV:=@NL
abbrev bO:=@NG
abbrev bF:=@NF
abbrev bX:=@ND
abbrev pn:=@NY
abbrev p1:=@NX
abbrev pd:=@Ne
abbrev ph:=@M5
abbrev gV:=@Ns
abbrev rs:=@MF
abbrev pb (b:Nat):SV:= .raw (.pointer (some ⟨b,0,none⟩))
abbrev i64 (x:Int):SV:= .raw (.int .i64 x)
theorem bs {α β:Type} {x:Option α} {f:α→Option β} {r:β} {G:Prop} (h:x.bind f=some r) (k:∀a,x=some a→f a=some r→G):G:=let ⟨a,b,c⟩:=OE h;k a b c
theorem gs {c:Bool} {α:Type} {x:Option α} {r:α} {G:Prop} (h:(bif c then x else none)=some r) (k:c=true→x=some r→G):G:=let ⟨a,b⟩:=Qv h;k a b
section
variable {P:Program} {ops:Array Oper} {Q:Exit→Act→World→Prop} {rest:List Oper} {F0:Fz} {n:Nat} {E:List (Nat×SV)} {L:List bx}
variable {d e:Nat} {op:Op} {ty ty':TypeId} {pos pos':String} {aft aft':Array Edge} {s:SV}
theorem m_ (h:(ev E x,Nat.blt d n)=(some s,true)) (k:aC F0 n ((d,s)::E) L (wpList P b Q a)):aC F0 n E L (wpList P b Q (⟨some d,.move x,ty,pos,aft,none⟩::a)):=mv (Prod.mk.inj h).1 (Prod.mk.inj h).2 k
theorem a_ (h:(ev E x,Nat.blt d n)=(some s,true)) (k:aC F0 n ((d,s)::E) L (wpList P b Q a)):aC F0 n E L (wpList P b Q (⟨some d,.assign x,ty,pos,aft,none⟩::a)):=ag (Prod.mk.inj h).1 (Prod.mk.inj h).2 k
theorem b_ (h:(ev E X,ev E Y,zE b i x y,Nat.blt d n)=(some (.raw (.int i x)),some (.raw (.int i y)),some v,true)) (k:aC F0 n ((d,.raw v)::E) L (wpList P c Q a)):aC F0 n E L (wpList P c Q (⟨some d,.binOp b t X Y u,ty,pos,aft,none⟩::a)):=by simp only[Prod.mk.injEq] at h;exact bn h.1 h.2.1 h.2.2.1 h.2.2.2 k
theorem mb (h:(ev E x,Nat.blt d n,ev ((d,s)::E) X,ev ((d,s)::E) Y,zE b i p q,Nat.blt e n)=(some s,true,some (.raw (.int i p)),some (.raw (.int i q)),some v,true)) (k:aC F0 n ((e,.raw v)::(d,s)::E) L (wpList P c Q a)):aC F0 n E L (wpList P c Q (⟨some d,.move x,ty,pos,aft,none⟩::⟨some e,.binOp b t X Y u,ty',pos',aft',none⟩::a)):=by simp only[Prod.mk.injEq] at h;exact mv h.1 h.2.1 (bn h.2.2.1 h.2.2.2.1 h.2.2.2.2.1 h.2.2.2.2.2 k)
theorem oL (hT:KT P T K) (h:(ev E X,Nat.blt d n)=(some (.ptr K x),true)) (k:aC F0 n ((d,.val K x)::E) L (wpList P b Q a)):aC F0 n E L (wpList P b Q (⟨some d,.load T X,ty,pos,aft,none⟩::a)):=KQ (Kt hT (Prod.mk.inj h).1) (Prod.mk.inj h).2 k
theorem oI (hT:KT P T (aR i)) (h:(ev E X,Nat.blt d n)=(some (.ptr (aR i) x),true)) (k:aC F0 n ((d,.raw (.int i x))::E) L (wpList P b Q a)):aC F0 n E L (wpList P b Q (⟨some d,.load T X,ty,pos,aft,none⟩::a)):=KQ (Ku hT (Prod.mk.inj h).1) (Prod.mk.inj h).2 k
theorem oE (h:(ev E X,l[i]?,Nat.blt d n)=(some (.tup l),some s,true)) (k:aC F0 n ((d,s)::E) L (wpList P b Q a)):aC F0 n E L (wpList P b Q (⟨some d,.extract X i,ty,pos,aft,none⟩::a)):=by simp only[Prod.mk.injEq] at h;exact KQ (KK h.1 h.2.1) h.2.2 k
theorem oN {xs:List α} (ht:P.underlying t=some (.slice e)) (h:(ev E X,Nat.blt d n)=(some (.val (bE K) xs),true)) (k:aC F0 n ((d,.raw (.int .i64 xs.length))::E) L (wpList P b Q a)):aC F0 n E L (wpList P b Q (⟨some d,.call ⟨.builtin .len,#[X],#[t]⟩,ty,pos,aft,none⟩::a)):=KQ (dH.len ht (Prod.mk.inj h).1 aM) (Prod.mk.inj h).2 k
theorem oF {f:dN β} (hT:bL P T i=some (cD fs i,m+1)) (h:(ev E X,fs[i]?,Nat.blt d n)=(some (.ptr (i_ fs) x),some f,true)) (k:aC F0 n ((d,.ptr f.K (f.get x))::E) L (wpList P b Q a)):aC F0 n E L (wpList P b Q (⟨some d,.fieldAddr T X i,ty,pos,aft,none⟩::a)):=by simp only[Prod.mk.injEq] at h;exact KQ (KF hT h.2.1 h.1) h.2.2 k
theorem oM (hT:bL P T i=some (o,m+1)) (h:(ev E X,Nat.blt d n)=(some (.raw (.pointer (some ⟨b,off,none⟩))),true)) (k:aC F0 n ((d,.raw (.pointer (some ⟨b,off+o,none⟩)))::E) L (wpList P c Q a)):aC F0 n E L (wpList P c Q (⟨some d,.fieldAddr T X i,ty,pos,aft,none⟩::a)):=KQ (KY hT (Prod.mk.inj h).1) (Prod.mk.inj h).2 k
theorem oX {K:Kd α} {i:Int} (hb:wJ r R b K0 x) (p:At K0 x off (bC m K) xs up) (hi:idx xs i=some z) (hT:P.underlying T=some (.array m e)) (hs:(P.info? e).map (·.size)=some K.n) (h:(ev E X,ev E I,Nat.blt d n)=(some (.raw (.pointer (some ⟨b,off,none⟩))),some (.raw (.int q i)),true)) (k:aC F0 n ((d,.raw (.pointer (some ⟨b,off+i.toNat*K.n,none⟩)))::E) (r::L) (wpList P c Q a)):aC F0 n E (r::L) (wpList P c Q (⟨some d,.indexAddr T X I,ty,pos,aft,none⟩::a)):=by simp only[Prod.mk.injEq] at h;exact KQ (N5 hb p hi hT hs h.1 h.2.1) h.2.2 k
theorem oS {K:Kd α} (hx:idx xs i=some x) (hT:P.underlying T=some (.slice e)) (hs:(P.info? e).map (·.size)=some K.n) (h:(ev E X,ev E I,Nat.blt d n)=(some (.val (bE K) xs),some (.raw (.int q i)),true)) (k:aC F0 n ((d,.ptr K x)::E) L (wpList P b Q a)):aC F0 n E L (wpList P b Q (⟨some d,.indexAddr T X I,ty,pos,aft,none⟩::a)):=by simp only[Prod.mk.injEq] at h;exact KQ (KG hx hT hs h.1 aM h.2.1) h.2.2 k
theorem oC {i:IntKind} (hs:(P.underlying q).isSome=true) (ht:P.underlying t=some (.int i)) (h:(ev E X,Nat.blt d n)=(some (.raw (.int j x)),true)) (k:aC F0 n ((d,.raw (.int i (i.wrap x)))::E) L (wpList P b Q a)):aC F0 n E L (wpList P b Q (⟨some d,.convert q t X,ty,pos,aft,none⟩::a)):=KQ (Lq hs ht (Prod.mk.inj h).1) (Prod.mk.inj h).2 k
theorem cx {xs:List Operand} (hc:∀a w,(callFunc f a).run P w= .ok (.enter f a) w) (h:(ev E X,QS E xs,Nat.blt d n)=(some (.raw (.func (.func f) #[] #[])),some l,true)) (ho:Ok P f l L s L') (k:aC F0 n ((d,s)::E) L' (wpList P c Q b)):aC F0 n E L (wpList P c Q (⟨some d,.call ⟨.value X,xs.toArray,tys⟩,ty,pos,aft,none⟩::b)):=by simp only[Prod.mk.injEq] at h;exact aC.call hc h.1 h.2.1 ho h.2.2 k
theorem bt (hc:c=b) (h:((a[j]?).bind (·.dst),look E g)=(some g,some (.raw (.bool c)))) (k:aC F0 n E L (wpList P a Q (⟨o,op,ty,pos,aft,none⟩::rest))):aC F0 n E L (wpList P a Q (⟨o,op,ty,pos,aft,some (j,b)⟩::rest)):=gc hc (Prod.mk.inj h).1 (Prod.mk.inj h).2 k
theorem bl (hc:c= !b) (h:((ops[j]?).bind (·.dst),look E g,Nat.blt u n)=(some g,some (.raw (.bool c)),true)) (k:aC F0 n ((u,.raw undef)::E) L (wpList P ops Q rest)):aC F0 n E L (wpList P ops Q (⟨some u,op,ty,pos,aft,some (j,b)⟩::rest)):=by simp only[Prod.mk.injEq] at h;exact sk hc h.1 h.2.1 h.2.2 k
theorem pT (hc:c=true) (h:(ev E x,ev E y,Nat.blt d n)=(some (.raw (.bool c)),some s,true)) (k:aC F0 n ((d,s)::E) L (wpList P b Q a)):aC F0 n E L (wpList P b Q (⟨some d,.pick x y z,ty,pos,aft,none⟩::a)):=by simp only[Prod.mk.injEq] at h;exact KQ (RR hc h.1 h.2.1) h.2.2 k
theorem pF (hc:c=false) (h:(ev E x,ev E z,Nat.blt d n)=(some (.raw (.bool c)),some s,true)) (k:aC F0 n ((d,s)::E) L (wpList P b Q a)):aC F0 n E L (wpList P b Q (⟨some d,.pick x y z,ty,pos,aft,none⟩::a)):=by simp only[Prod.mk.injEq] at h;exact KQ (RT hc h.1 h.2.1) h.2.2 k
theorem dJ (h:(ev (gW us E) x,Nat.blt d n)=(some s,true)) (k:rH P n Lf a F0 K p l ((d,s)::E)):rH P n Lf a F0 K (us::p) (⟨some d,.move x,ty,pos,aft,none⟩::l) E:=vm (Prod.mk.inj h).1 (Prod.mk.inj h).2 k
theorem qE (h:(ev (gW us E) X,ev (gW us E) Y,zE b i x y,Nat.blt d n)=(some (.raw (.int i x)),some (.raw (.int i y)),some v,true)) (k:rH P n Lf a F0 K p l ((d,.raw v)::E)):rH P n Lf a F0 K (us::p) (⟨some d,.binOp b t X Y u,ty,pos,aft,none⟩::l) E:=by simp only[Prod.mk.injEq] at h;exact vb h.1 h.2.1 h.2.2.1 h.2.2.2 k
end
end Go.Sim
namespace Go.Sim
open Go
section
variable {P:Program} {ops:Array Oper} {Q:Exit→Act→World→Prop} {rest:List Oper} {F0:Fz} {n:Nat} {E:List (Nat×SV)} {L:List bx}
variable {d:Nat} {op:Op} {ty:TypeId} {pos:String} {aft:Array Edge} {s:SV}
end
end Go.Sim
namespace Go.Sim
open Go
section
variable {P:Program} {ops:Array Oper} {Q:Exit→Act→World→Prop} {rest:List Oper} {F0:Fz} {n:Nat} {E:List (Nat×SV)} {L:List bx}
variable {τ:Type} {KT:Kd τ} {TE TT:TypeId} {v:Value}
abbrev E2 (KT:Kd τ) (TE TT:TypeId) (v:Value) (xs:List (List τ)):bx:=mO dB KT (λ(_:List τ) (q:Value)=>q) (λx:List τ=>x) TE TT v xs
theorem uT:∀{xs:List (List τ)} {qs:List Value},qs.length=xs.length→List.zipWith (λ(_:List τ) (q:Value)=>q) xs qs=qs|[],[],_=>rfl|x::xs,q::qs,h=>by rw[JC,uT (by simpa using h)]|[],_::_,h=>by simp at h|_::_,[],h=>by simp at h
theorem N2 (hs:St F w L):St F w (.own KT (.slice none 0 0) TT []::L):=by refine⟨bM.emp,.inl ⟨rfl,rfl,rfl⟩,λb hb=>absurd rfl hb,?_⟩;rw[Lh];exact hs
theorem M1 (hs:St F w L):∀m,St F w (f_ KT (λx:List τ=>x) TT (List.replicate m []) (List.replicate m (.slice none 0 0))++L)|0=>hs|m+1=>by have:=M1 hs m;rw[H1,H1];exact N2 (KT:=KT) (TT:=TT) this
theorem ML (k:aC F0 n E (E2 KT TE TT v (List.replicate m [])::L) X):aC F0 n E (.own dB v TE (List.replicate m (.slice none 0 0))::L) X:=λF a w h0 hE hS=>by refine k F a w h0 hE (Lj (qs:=List.replicate m (.slice none 0 0)) (by simp) ?_);rw[uT (by simp)];exact(M1 (KT:=KT) (TT:=TT) hS m).perm Ix
theorem MM {xs:List (List τ)} {i:Int} (hT:cN KT) (hi:idx xs i=some x) (k:∀(q:Value) (ys:List Value) (Rs:List bx),ys.length=xs.length→idx ys i=some q→(∀x' q' F w L',St F w (.own dB v TE (List.set ys i.toNat q'):: .own KT q' TT x'::(Rs++L'))→St F w (E2 KT TE TT v (List.set xs i.toNat x')::L'))→aC F0 n E (.own dB v TE ys:: .own KT q TT x::(Rs++L)) X):aC F0 n E (E2 KT TE TT v xs::L) X:=λF a w h0 hE hS=>by obtain⟨qs,hl,b⟩:=hS.manyOpen Lp hT;rw[uT hl] at b;obtain⟨h1,h2,h3⟩:=iA hi;have j:i.toNat<xs.length:=(GC.1 h3).1;(have c:i.toNat<qs.length:=by omega);have hx:xs[i.toNat]=x:=(GC.1 h3).2;(have f:∀x' q',f_ KT (λx:List τ=>x) TT (xs.set i.toNat x') (qs.set i.toNat q')=f_ KT (λx:List τ=>x) TT (xs.take i.toNat) (qs.take i.toNat)++.own KT q' TT x'::f_ KT (λx:List τ=>x) TT (xs.drop (i.toNat+1)) (qs.drop (i.toNat+1)):=λx' q'=>by unfold f_;rw[HZ,Hv j,HZ,Hv c];rw[List.zipWith_append (by simp;omega)];rfl);(have g:xs.set i.toNat x=xs:=by rw[←hx];simp);(have e:qs.set i.toNat qs[i.toNat]=qs:=by simp);have d:=f x qs[i.toNat];rw[g,e] at d;rw[d] at b;refine k qs[i.toNat] qs (f_ KT (λx:List τ=>x) TT (xs.take i.toNat) (qs.take i.toNat)++f_ KT (λx:List τ=>x) TT (xs.drop (i.toNat+1)) (qs.drop (i.toNat+1))) hl ?_ (λx' q' F w L' h=>?_) F a w h0 hE (b.perm ?_);unfold idx;rw[Hv h1];simp[c];refine Lj (qs:=qs.set i.toNat q') (by simp[hl]) ?_;rw[uT (by simp[hl]),f x' q'];refine h.perm (List.Perm.cons _ ?_);simp only[GW,HU];exact Ix.symm;refine List.Perm.cons _ ?_;simp only[GW,HU];exact Ix
end
end Go.Sim
namespace Go.Sim
open Go
section
variable {P:Program} {ops:Array Oper} {Q:Exit→Act→World→Prop} {rest:List Oper} {F0:Fz} {n:Nat} {E:List (Nat×SV)} {L:List bx}
variable {d:Nat} {op:Op} {ty:TypeId} {pos:String} {aft:Array Edge} {s:SV}
end
end Go.Sim
namespace Go.Sim
open Go
section
variable {P:Program} {ops:Array Oper} {Q:Exit→Act→World→Prop} {rest:List Oper} {F0:Fz} {n:Nat} {E:List (Nat×SV)} {L:List bx}
variable {d:Nat} {op:Op} {ty:TypeId} {pos:String} {aft:Array Edge} {s:SV}
end
end Go.Sim
namespace Go.Sim
open Go
theorem kr (h:a=b:=by kernel_rfl):a=b:=h
theorem kq {P:Program} {K:Kd α} (h1:(P.info? T).map (·.size)=some K.n:=by kernel_rfl) (h2:wL P T=some K.agg:=by kernel_rfl):KT P T K:=⟨h1,h2⟩
theorem uq {γ:Type} {fs:List (dN γ)} {i:Nat} {f:dN γ} {s1:γ→f.α→γ} (h1:fs[i]? =some f:=by exact rfl) (h2:∀x y,f.get (s1 x y)=y:=by exact λ_ _=>rfl) (h3:∀x y,uM x (s1 x y) fs i:=by exact λ_ _=>by simp[uM]):mF fs i f s1:=⟨h1,h2,h3⟩
class ZK {α:Type} (K:Kd α) (z:outParam α) where
 cs:List Value
 rd:∀F,K.rd F cs z
instance (k:IntKind):ZK (aR k) 0:=⟨[.int k 0],λ_=>rfl⟩
instance:ZK mx false:=⟨[.bool false],λ_=>rfl⟩
instance:ZK ml []:=⟨[.string ByteArray.empty],λ_=>⟨_,rfl,rfl⟩⟩
instance {α:Type} (K:Kd α):ZK (bE K) []:=⟨[.slice none 0 0],λ_=>⟨none,0,rfl,GZ _,.inl rfl⟩⟩
instance {α β:Type} (K:Kd α) (V:Kd β):ZK (O4 K V) []:=⟨[.map none],λ_=> .inl ⟨rfl,rfl⟩⟩
instance:ZK dB (.slice none 0 0):=⟨[.slice none 0 0],λ_=>⟨rfl,rfl⟩⟩
instance {α:Type} (m:Nat) (K:Kd α) (z:α) [h:ZK K z]:ZK (bC m K) (List.replicate m z):=⟨(List.replicate m h.cs).flatten,λF=>⟨by simp,nm (h.rd F) m⟩⟩
class ZF {β:Type} (fs:List (dN β)) (z:β) where
 cs:List Value
 rd:∀F,pD F fs cs z
instance {β:Type} (z:β):ZF [] z:=⟨[],λ_=>rfl⟩
instance {β γ:Type} (K:Kd γ) (g:β→γ) (fs:List (dN β)) (z:β) [h:ZK K (g z)] [k:ZF fs z]:ZF (⟨K,g⟩::fs) z:=⟨h.cs++k.cs,λF=>⟨h.cs,k.cs,rfl,h.rd F,k.rd F⟩⟩
@[reducible] def zs {β:Type} {fs:List (dN β)} {z:β} [h:ZF fs z]:ZK (i_ fs) z:=⟨h.cs,h.rd⟩
def pr (P:Program) (T:TypeId):Option (Nat×Nat×List Value):=(P.info? T).bind λi=>i.zero.map λv=>(i.size,i.bytes,v.cells.toList)
theorem ny {P:Program} {T:TypeId} {m b:Nat} {cs:List Value} (h:pr P T=some (m,b,cs)):∃ie zv,P.info? T=some ie∧ie.zero=some zv∧ie.size=m∧ie.bytes=b∧zv.cells.toList=cs:=by obtain⟨i,h1,h2⟩:=HA.1 h;obtain⟨v,h3,h4⟩:=Hg.1 h2;cases h4;exact⟨i,v,h1,h3,rfl,rfl,rfl⟩
theorem zq {α:Type} {P:Program} {T:TypeId} {K:Kd α} {z:α} [h:ZK K z] (e:(pr P T).map (·.2.2)=some h.cs:=by kernel_rfl):ZT P T K z:=by obtain⟨⟨m,b,ds⟩,h1,h2⟩:=Hg.1 e;simp only at h2;subst h2;obtain⟨i,v,a1,a2,a3,a4,a5⟩:=ny h1;exact⟨v,by rw[a1];exact a2,λF=>a5▸h.rd F⟩
theorem OL {α:Type} {P:Program} {T:TypeId} {K:Kd α} {z:α} [h:ZK K z] (e:(pr P T).map (λx=>(x.1,Nat.blt 0 x.1,x.2.2))=some (K.n,true,h.cs):=by kernel_rfl):ET P T K z:=by obtain⟨⟨m,b,ds⟩,h1,h2⟩:=Hg.1 e;simp only[Prod.mk.injEq] at h2;obtain⟨rfl,h3,rfl⟩:=h2;obtain⟨i,v,a1,a2,a3,a4,a5⟩:=ny h1;exact⟨i,v,a1,a2,a3,by simpa[H4] using h3,λF=>a5▸h.rd F⟩
theorem aq {α:Type} {P:Program} {T:TypeId} {K:Kd α} {z:α} [h:ZK K z] {b:Nat} (e:(pr P T).map (λx=>(x,Nat.blt 0 x.1,Nat.ble x.2.1 4096))=some ((K.n,b,h.cs),true,true):=by kernel_rfl):AT P T K z b:=by obtain⟨⟨m,b,ds⟩,h1,h2⟩:=Hg.1 e;simp only[Prod.mk.injEq] at h2;obtain⟨⟨rfl,rfl,rfl⟩,h3,h4⟩:=h2;obtain⟨i,v,a1,a2,a3,a4,a5⟩:=ny h1;exact⟨i,v,a1,a2,a3,a4,by simpa[H4] using h3,HS h4,λF=>a5▸h.rd F⟩
def QP {β:Type}:Nat→List (dN β)→List (Nat×Nat)|_,[]=>[]|o,f::fs=>(o,f.K.n)::QP (o+f.K.n) fs
theorem Bt:∀(fs:List (dN β)) (o i:Nat) (f:dN β),fs[i]? =some f→(QP o fs)[i]? =some (o+cD fs i,f.K.n)|[],_,_,_,h=>by cases h|g::fs,o,0,f,h=>by cases h;rfl|g::fs,o,i+1,f,h=>by have:=Bt fs (o+g.K.n) i f h;simp only[QP,List.getElem?_cons_succ,this,cD,J3]
def TD (P:Program) (T:TypeId):Option (List (Nat×Nat)):=match P.underlying T with|some (.struct ff)=>ff.toList.mapM (λf=>(P.info? f.type).map λi=>(f.offset,i.size))|_=>none
theorem bq {β:Type} {P:Program} {T:TypeId} {fs:List (dN β)} {z:β} [h:ZF fs z] (e:((pr P T).map (·.2.2),TD P T)=(some h.cs,some (QP 0 fs)):=by kernel_rfl):BT P T fs z:=by simp only[Prod.mk.injEq] at e;obtain⟨e,e2⟩:=e;obtain⟨⟨m,b,ds⟩,h1,h2⟩:=Hg.1 e;simp only at h2;subst h2;obtain⟨i,v,a1,a2,a3,a4,a5⟩:=ny h1;unfold TD at e2;split at e2;rename_i ff hu;refine⟨i,v,ff,_,a1,a2,hu,e2,λj f hj=>?_,λF=>a5▸h.rd F⟩;have:=Bt fs 0 j f hj;simpa using this;cases e2
def SL (P:Program) (T:TypeId):Option (Nat×Nat):=match P.underlying T with|some (.array m e)=>(P.info? e).map λi=>(m,i.size)|_=>none
theorem TR {α:Type} {P:Program} {T:TypeId} {m:Nat} {K:Kd α} {z:α} [h:ZK K z] (e:((pr P T).map (·.2.2),SL P T)=(some (List.replicate m h.cs).flatten,some (m,K.n)):=by kernel_rfl):Sw P T m K (List.replicate m z):=by simp only[Prod.mk.injEq] at e;obtain⟨e,e2⟩:=e;obtain⟨⟨k,b,ds⟩,h1,h2⟩:=Hg.1 e;simp only at h2;subst h2;obtain⟨i,v,a1,a2,a3,a4,a5⟩:=ny h1;unfold SL at e2;split at e2;rename_i k e' hu;obtain⟨ie,b1,b2⟩:=Hg.1 e2;simp only[Prod.mk.injEq] at b2;obtain⟨rfl,b2⟩:=b2;exact⟨i,v,e',ie,a1,a2,hu,b1,b2,by simp,λF=>by rw[a5];exact nm (h.rd F) _⟩;cases e2
theorem bc {i:Nat} {x x' y:β} {f:dN β} (hf:fs[i]? =some f) (hX:ev E X=some s) (hr:dK s f.K (f.get x')) (r:dM E fs ps x' y) (hb:uM x x' fs i:=by simp[uM]):dM E fs ((i,X)::ps) x y:= .cons hf hX hr hb r
abbrev j1:=@Mo
abbrev j2:=@MR
abbrev j3:=@MS
abbrev j4:=@MT
def Tx (E:List (Nat×SV)):List ResultVar→Option (List SV)|[]=>some []| .tmp u::l=>(match look E u,Tx E l with|some s,some ss=>some (s::ss)|_,_=>none)|_=>none
theorem zU:∀{l:List ResultVar} {ss:List SV},Tx E l=some ss→tN P E l ss|[],_,h=>by cases h;exact .nil| .tmp u::l,ss,h=>by simp only[Tx] at h;split at h;rename_i s t h1 h2;cases h;exact .tm h1 (zU h2);cases h| .cell _ _::_,_,h=>by cases h
section
variable {P:Program} {F0:Fz} {n:Nat} {E:List (Nat×SV)} {L:List bx} {s:SV}
theorem rq {fn:Func} {l:List ResultVar} (hr:fn.results=l.toArray) (h:Tx E l=some ss) (he:lJ ss=s) (hL:L=L'):aC F0 n E L (bodyPost P fn (λe w'=>∃G v,e= .returned v∧F0≤G∧St G w' L'∧s.ok G v) .ret):=MF hr (zU h) he hL
theorem rX {fn:Func} {l:List ResultVar} {ss:List SV} {C:Type} {s:C→SV} {L':C→List bx} (y:C) (hr:fn.results=l.toArray) (h:Tx E l=some ss) (he:lJ ss=s y) (hL:L=L' y):aC F0 n E L (bodyPost P fn (λe w'=>∃y G v,e= .returned v∧F0≤G∧St G w' (L' y)∧(s y).ok G v) .ret):=KA y hr (zU h) he hL
end
def RP (E:List (Nat×SV)) (k:IntKind):List (Nat×Operand)→List Int→Option (List Int)|[],xs=>some xs|(i,X)::ps,xs=>match ev E X,Nat.blt i xs.length with|some (.raw (.int k' y)),true=>if k'=k then RP E k ps (xs.set i y) else none|_,_=>none
theorem bI:∀{ps:List (Nat×Operand)} {xs ys:List Int},RP E k ps xs=some ys→bR E (aR k) ps xs ys|[],xs,ys,h=>by cases h;exact .nil _|(i,X)::ps,xs,ys,h=>by simp only[RP] at h;split at h;rename_i k' y h1 h2;split at h;rename_i hk;subst hk;exact .cons h2 h1 c9 (bI h);cases h;cases h
end Go.Sim
namespace Go.Sim
open Go
theorem n_ (h:(ev E x,Nat.blt d n)=(some s,true)) (k:aC F0 n ((d,s)::E) L K):aC F0 n E L (wpList P ops (Exit.then K Q) [⟨some d,.assign x,ty,pos,aft,none⟩]):=a_ h (nt k)
theorem r_ (h:(ev E x,Nat.blt d n)=(some s,true)) (k:aC F0 n ((d,s)::E) L (R .ret)):aC F0 n E L (wpList P ops (Exit.then (Code.ret.wp P R) Q) [⟨some d,.assign x,ty,pos,aft,none⟩]):=a_ h (nt (rc k))
theorem t_ {y:Code} (h:(ev E x,Nat.blt d n)=(some s,true)) (k:aC F0 n ((d,s)::E) L (wpList P (⟨some d,.move x,ty,pos,aft,none⟩::l).toArray (Exit.then (y.wp P Q) Q) l)):aC F0 n E L ((Code.seq (Code.region iz (⟨some d,.move x,ty,pos,aft,none⟩::l).toArray false) y).wp P Q):=sr (m_ h k)
theorem u_ {y:Code} (h:(ev E x,Nat.blt d n)=(some s,true)) (k:aC F0 n ((d,s)::E) L (wpList P (⟨some d,.assign x,ty,pos,aft,none⟩::l).toArray (Exit.then (y.wp P Q) Q) l)):aC F0 n E L ((Code.seq (Code.region iz (⟨some d,.assign x,ty,pos,aft,none⟩::l).toArray false) y).wp P Q):=sr (a_ h k)
theorem v_ {y:Code} (h:(ev E x,Nat.blt d n)=(some s,true)) (k:aC F0 n ((d,s)::E) L (y.wp P Q)):aC F0 n E L ((Code.seq (Code.region iz [⟨some d,.assign x,ty,pos,aft,none⟩].toArray false) y).wp P Q):=sr (a_ h (nt k))
theorem e_ (k:aC F0 n E L M):aC F0 n E L (Exit.then K (Exit.inBlock iz (Exit.then M Q)) (.exit iz)):=te (bh (tn k))
theorem c_ {c y:Code} (k:aC F0 n E L (c.wp P (Exit.inBlock iz (Exit.then (y.wp P R) R)))):aC F0 n E L (Code.skip.wp P (Exit.then ((Code.seq (Code.block iz c) y).wp P R) Q)):=ct (sq (bk k))
theorem q_ {x y:Code} (k:aC F0 n E L (x.wp P (Exit.then (y.wp P R) R))):aC F0 n E L (wpList P ops (Exit.then ((Code.seq x y).wp P R) Q) []):=nt (sq k)
theorem s_ {x y:Code} (k:aC F0 n E L (wpList P l.toArray (Exit.then (x.wp P (Exit.then (y.wp P Q) Q)) (Exit.then (y.wp P Q) Q)) l)):aC F0 n E L ((Code.seq (Code.seq (Code.region iz l.toArray false) x) y).wp P Q):=sq (sr k)
theorem d_ (h:(ev E x,Nat.blt d n,ev ((d,s)::E) y,Nat.blt e n)=(some s,true,some r,true)) (k:aC F0 n ((e,r)::(d,s)::E) L (wpList P ops Q l)):aC F0 n E L (wpList P ops Q (⟨some d,.assign x,ty,pos,aft,none⟩::⟨some e,.assign y,tz,poz,afz,none⟩::l)):=by simp only[Prod.mk.injEq] at h;exact a_ (by rw[h.1,h.2.1]) (a_ (by rw[h.2.2.1,h.2.2.2]) k)
theorem w_ (h:(ev E x,Nat.blt d n,ev ((d,s)::E) y,Nat.blt e n)=(some s,true,some r,true)) (k:aC F0 n ((e,r)::(d,s)::E) L (wpList P ops Q l)):aC F0 n E L (wpList P ops Q (⟨some d,.move x,ty,pos,aft,none⟩::⟨some e,.move y,tz,poz,afz,none⟩::l)):=by simp only[Prod.mk.injEq] at h;exact m_ (by rw[h.1,h.2.1]) (m_ (by rw[h.2.2.1,h.2.2.2]) k)
theorem l_ (h:(ev E x,Nat.blt d n,ev ((d,s)::E) X,ev ((d,s)::E) Y,zE b i p q,Nat.blt e n)=(some s,true,some (.raw (.int i p)),some (.raw (.int i q)),some v,true)) (h2:(ev ((e,.raw v)::(d,s)::E) z,Nat.blt f n)=(some r,true)) (k:aC F0 n ((f,r)::(e,.raw v)::(d,s)::E) L (R .normal)):aC F0 n E L (Exit.inBlock iz (Exit.then ((Code.region ie [⟨some d,.move x,ty,pos,aft,none⟩,⟨some e,.binOp b t X Y u,tz,poz,afz,none⟩,⟨some f,.assign z,tw,pow,afw,none⟩].toArray false).wp P R) Q) .normal):=MD (tn (rg (mb h (a_ h2 (nl k)))))
theorem k_ (h:(ev E X,ev E Y,zE b i p q,Nat.blt d n)=(some (.raw (.int i p)),some (.raw (.int i q)),some v,true)) (h2:(ev ((d,.raw v)::E) z,Nat.blt f n)=(some r,true)) (k:aC F0 n ((f,r)::(d,.raw v)::E) L (R .normal)):aC F0 n E L (Exit.inBlock iz (Exit.then ((Code.region ie [⟨some d,.binOp b t X Y u,tz,poz,afz,none⟩,⟨some f,.move z,tw,pow,afw,none⟩].toArray false).wp P R) Q) .normal):=MD (tn (rg (b_ h (m_ h2 (nl k)))))
end Go.Sim
namespace Go.Sim
open Go
def p_ (r:bx):Prop:=∀F G h,r.holds F h→r.holds G h
theorem p_.own {α:Type} {K:Kd α} (hK:cN K) {v:Value} {e:TypeId} {xs:List α}:p_ (.own K v e xs):=λ_ _ _ h=>pX hK h
def Le:=@p_.own
theorem p_.any {r:bM→Prop}:p_ (.any r):=λ_ _ _ h=>h
def E3 {β:Type}:List (dN β)→Prop
 |[]=>True
 |f::fs=>cN f.K∧E3 fs
theorem Bu {β:Type} {F G:Fz}:∀{fs:List (dN β)} {cs:List Value} {x:β},E3 fs→pD F fs cs x→pD G fs cs x
 |[],_,_,_,h=>h
 |f::fs,cs,x,hf,⟨c,d,e,h,r⟩=>⟨c,d,e,hf.1 _ _ _ _ h,Bu hf.2 r⟩
theorem cN.st {β:Type} {fs:List (dN β)} (h:E3 fs):cN (i_ fs):=λ_ _ _ _ hr=>Bu h hr
theorem cN.bool:cN mx:=λ_ _ _ _ h=>h
theorem xK.tup:∀{l:List SV},(∀s∈l,xK s)→xK (.tup l):=λ{l} hl F G u h=>by
 simp only[SV.ok] at*
 obtain⟨vs,e,h⟩:=h
 refine⟨vs,e,?_⟩
 clear e
 induction l generalizing vs with
 |nil=>cases vs<;>simp only[SV.oks] at*
 |cons s l ih=>
  cases vs with
  |nil=>simp only[SV.oks] at h
  |cons v vs=>
   simp only[SV.oks] at*
   exact⟨hl s (by simp) F G v h.1,ih (λs hs=>hl s (by simp[hs])) vs h.2⟩
def na (G:Fz) (r:bx):Prop:=∃h,r.holds G h∧∀b o,h b=some o→G.blk b=some o
theorem na.own {α:Type} {K:Kd α} {v:Value} {e:TypeId} {xs:List α} {G:Fz} (h:na G (.own K v e xs)):(bE K).val G v xs:=by
 obtain⟨h,hh,hon⟩:=h
 rcases hh with⟨rfl,rfl,_⟩|⟨g,cap,cur,rfl,rfl,h3,h4,h5,h6⟩
 · exact⟨[.slice none 0 0],⟨none,0,rfl,GZ _,.inl rfl⟩,rfl⟩
 · refine⟨[.slice (some ⟨g,0,none⟩) xs.length cap],⟨_,cap,rfl,h3,.inr ⟨⟨g,0,none⟩,cur,e,(0,0),rfl,rfl,hon g _ (J8 _ _),?_,by simpa using h6⟩⟩,rfl⟩
   have:xs.length*K.n≤cap*K.n:=GI _ h3
   simp only;omega
theorem zV {G:Fz}:∀{rs:List bx} {h:bM},vN G rs h→(∀b o,h b=some o→G.blk b=some o)→∀r∈rs,na G r
 |[],_,_,_,r,hr=>by cases hr
 |q::rs,h,⟨h1,h2,a,b,c,e⟩,on,r,hr=>by
  subst e
  have n1:∀b o,h1 b=some o→G.blk b=some o:=λb o e=>on b o (by simp only[Rc,e])
  have n2:∀b o,h2 b=some o→G.blk b=some o:=λb o e=>on b o (by
    cases e1:h1 b with
    |none=>simp only[Rc,e1];exact e
    |some q=>have:=c b (by simp[e]);rw[e1] at this;cases this)
  rcases Hc.1 hr with rfl|hr
  · exact⟨h1,a,n1⟩
  · exact zV b n2 r hr
theorem yr {F G:Fz} (hg:F≤G):∀{rs:List bx} {h:bM},vN F rs h→vN G rs h
 |[],_,e=>e
 |r::rs,h,⟨h1,h2,a,b,c,e⟩=>⟨h1,h2,bx.mono hg a,yr hg b,c,e⟩
theorem yt {F G:Fz}:∀{rs:List bx} {h:bM},(∀r∈rs,p_ r)→vN F rs h→vN G rs h
 |[],_,_,e=>e
 |r::rs,h,hf,⟨h1,h2,a,b,c,e⟩=>⟨h1,h2,hf r (by simp) _ _ _ a,yt (λq hq=>hf q (by simp[hq])) b,c,e⟩
theorem E4 {F G:Fz} {h:bM} (hap:o_ F h) (hg:F.add h≤G):∃B,F≤B∧o_ B h∧B.add h=G:=by
 obtain⟨B,a,_,b,c⟩:=qo (K:=mx) (v:= .slice none 0 0) (e:=0) (xs:=[]) (F:=F) (G:=G) (h:=bM.emp) (.inl ⟨rfl,rfl,rfl⟩) (λb hb=>absurd rfl hb) (by rw[Lh];exact Lk (F.le_add h) hg)
 have hFG:F≤G:=Lk (F.le_add h) hg
 have hFB:F≤G.but F h hFG hap:=⟨λb o hb=>by
   have hb0:h b=none:=by
    cases hh:h b with
    |none=>rfl
    |some q=>have:=hap b (by rw[hh];simp);rw[this] at hb;cases hb
   simp only[Fz.but,hb0];exact hFG.blk _ _ hb,hFG.os,hFG.tape,hFG.output⟩
 refine⟨G.but F h hFG hap,hFB,λb hb=>?_,?_⟩
 · cases hh:h b with
   |none=>exact absurd hh hb
   |some q=>simp only[Fz.but,hh]
 · cases G with
   |mk blk os tape out glob=>
    simp only[Fz.but,Fz.add,Fz.mk.injEq,Je]
    funext b
    cases hh:h b with
    |none=>simp only[];cases blk b<;>rfl
    |some q=>
     simp only[]
     have:(F.add h).blk b=some q:=by
      have hF:=hap b (by rw[hh];simp)
      simp only[Fz.add,hF];exact hh
     exact(hg.blk _ _ this).symm
theorem M2 {G B F0:Fz} (hb:F0≤B) {w:World} {L:List bx}:∀{A:List bx} {F:Fz},(∀r∈A,p_ r)→mC G F w (A++L.map (bx.fix F0))→mC B F w (A++L)
 |[],F,_,h=>mC.mono hb ((LC F0 G).2 h)
 |r::A,F,hf,⟨h,a,b,c⟩=>⟨h,hf r (by simp) _ _ _ a,b,M2 hb (λq hq=>hf q (by simp[hq])) c⟩
def Sd:List bx→Prop
 |[]=>True
 |r::rs=>p_ r∧Sd rs
theorem Sd.all:∀{rs:List bx},Sd rs→∀r∈rs,p_ r
 |[],_,r,h=>by cases h
 |q::rs,hf,r,h=>by
  rcases Hc.1 h with rfl|h
  · exact hf.1
  · exact Sd.all hf.2 r h
def tF (G:Fz):List bx→Prop
 |[]=>True
 |r::rs=>na G r∧tF G rs
theorem tF.of {G:Fz}:∀{rs:List bx},(∀r∈rs,na G r)→tF G rs
 |[],_=>trivial
 |r::rs,h=>⟨h r (by simp),tF.of λq hq=>h q (by simp[hq])⟩
def P4:List SV→Prop
 |[]=>True
 |s::l=>xK s∧P4 l
theorem P4.all:∀{l:List SV},P4 l→∀s∈l,xK s
 |[],_,r,h=>by cases h
 |q::l,hf,r,h=>by
  rcases Hc.1 h with rfl|h
  · exact hf.1
  · exact P4.all hf.2 r h
theorem Nf {l:List SV} (h:P4 l):xK (.tup l):=xK.tup h.all
theorem Ms {P:Program} {f:FuncId} {l l':List SV} {C:Type} {s:C→SV} {L L1:List bx} (rs:List bx) (R:C→List bx) (L2:C→List bx) (hfree:Sd rs) (ho:∀L,xL P f l L s (λy=>R y++L)) (hR:∀y,Sd (R y)) (hs:∀y,xK (s y))
  (hc:∀G,tF G rs→∀vs,SV.oks G vs l'→SV.oks G vs l) (h1:rs++L=L1) (h2:∀y,rs++(R y++L)=L2 y):xL P f l' L1 s L2:=λF w vs hvs hS=>by
 subst h1
 obtain⟨h,hb,hap,hs'⟩:=L6 hS
 have hle:F≤F.add h:=F.le_add h
 have hfr:=zV (yr hle hb) (λb o e=>by
  have:=hap b (by rw[e];simp)
  simp only[Fz.add,this];exact e)
 have h1:=hc _ (.of hfr) _ (Lv hle hvs)
 have h3:St (F.add h) w (L.map (bx.fix F)):=(LC F (F.add h)).1 hs'
 refine(ho _ (F.add h) w vs h1 h3).mono λe' w' ⟨y,G,u,he,hg,hS',hok⟩=>?_
 obtain⟨B,b1,b3,b4⟩:=E4 hap hg
 refine⟨y,B,u,he,b1,?_,hs y _ _ _ hok⟩
 rw[←h2 y]
 refine LU (yt hfree.all hb) b3 ?_
 rw[b4]
 exact M2 b1 (hR y).all hS'
theorem Ng {P:Program} {f:FuncId} {l l':List SV} {s:SV} {L L1:List bx} (rs:List bx) (hfree:Sd rs) (ho:∀L,Ok P f l L s L) (hs:xK s)
  (hc:∀G,tF G rs→∀vs,SV.oks G vs l'→SV.oks G vs l) (h1:rs++L=L1):Ok P f l' L1 s L1:=λF w vs hvs hS=>
 ((Ms (C:=Unit) (s:=λ_=>s) rs (λ_=>[]) (λ_=>L1) hfree (λL=>Oe (ho L)) (λ_=>trivial) (λ_=>hs) hc h1 (λ_=>h1)) F w vs hvs hS).mono λe w' ⟨_,G,v,h⟩=>⟨G,v,h⟩
theorem w6 {G:Fz} {s s':SV} (h:∀v,s'.ok G v→s.ok G v) {l l':List SV} (hl:∀vs,SV.oks G vs l'→SV.oks G vs l):∀vs,SV.oks G vs (s'::l')→SV.oks G vs (s::l)
 |[],k=>by simp only[SV.oks] at k
 |v::vs,k=>by simp only[SV.oks] at*;exact⟨h v k.1,hl vs k.2⟩
theorem pY {G:Fz} {s:SV} {l l':List SV} (hl:∀vs,SV.oks G vs l'→SV.oks G vs l):∀vs,SV.oks G vs (s::l')→SV.oks G vs (s::l):=w6 (λ_ h=>h) hl
theorem uU {G:Fz}:∀vs,SV.oks G vs []→SV.oks G vs []:=λ_ h=>h
theorem FW {α:Type} {K:Kd α} {v:Value} {e:TypeId} {xs:List α} {G:Fz} (h:na G (.own K v e xs)):∀u,(SV.raw v).ok G u→(SV.val (bE K) xs).ok G u:=λu hu=>by
 simp only[SV.ok] at*;subst hu;exact h.own
theorem FX {β γ:Type} {fs':List (dN γ)} {fs:List (dN β)} {x':γ} {x:β} {G:Fz} (h:TM G fs' fs x' x):∀u,(SV.val (i_ fs') x').ok G u→(SV.val (i_ fs) x).ok G u:=λu hu=>by
 simp only[SV.ok] at*
 obtain⟨cs,a,b⟩:=hu
 exact⟨cs,lU h a,b⟩
theorem N6 {β γ τ:Type} {KB:Kd β} {KR:Kd γ} {KT:Kd τ} {mk:β→Value→γ} {tg:β→List τ} {TE TT:TypeId} {v:Value} {xs:List β} {G:Fz} (hR:cN KR) (hT:cN KT) (hn:KB.n=KR.n)
   (hcv:∀F x q,(bE KT).val F q (tg x)→∀cs,KR.rd F cs (mk x q)→KB.rd F cs x) (h:na G (mO KR KT mk tg TE TT v xs)):(bE KB).val G v xs:=by
 obtain⟨h,⟨F',qs,hl,hb⟩,hon⟩:=h
 have hb':vN G (.own KR v TE (List.zipWith mk xs qs)::f_ KT tg TT xs qs) h:=by
   obtain⟨h1,h2,a,b,c,e⟩:=hb
   exact⟨h1,h2,pX hR a,qm hT b,c,e⟩
 have hf:=zV hb' hon
 obtain⟨cs,hcs,hv⟩:=na.own (hf (.own KR v TE (List.zipWith mk xs qs)) (by simp))
 refine⟨cs,?_,hv⟩
 obtain⟨a,cap,h1,h2,h3⟩:=hcs
 have hlen:(List.zipWith mk xs qs).length=xs.length:=by simp[hl]
 refine⟨a,cap,by rw[hlen] at h1;exact h1,by omega,?_⟩
 rcases h3 with h3|⟨p,c,e,fr,p1,p2,p3,p4,p5⟩
 · exact .inl (by omega)
 · refine .inr ⟨p,c,e,fr,p1,p2,p3,by rw[hn];rw[hlen] at p4;exact p4,?_⟩
   rw[hn]
   rw[hlen] at p5
   refine tp (hcv G) hl (λq hq=>?_) p5
   obtain⟨i,hi⟩:=Hd.1 hq
   have:(bx.own KT q.2 TT (tg q.1))∈f_ KT tg TT xs qs:=by
    unfold f_
    refine Hd.2 ⟨i,?_⟩
    rw[IJ]
    rw[List.getElem?_zip_eq_some] at hi
    rw[hi.1,hi.2]
   exact na.own (hf _ (List.mem_cons_of_mem _ this))
def Px:Nat→List bx→Option (List bx)
 |0,L=>some L
 |i+1,r::L=>match Px i L with
  |some (q::M)=>some (q::r::M)
  |_=>none
 |_+1,[]=>none
theorem w7:∀{i:Nat} {L L':List bx},Px i L=some L'→L.Perm L'
 |0,L,L',h=>by cases h;exact .refl _
 |i+1,r::L,L',h=>by
  simp only[Px] at h
  split at h
  · rename_i q M hb
    cases h
    exact((w7 hb).cons r).trans (List.Perm.swap _ _ _)
  · cases h
 |_+1,[],_,h=>by cases h
theorem J5 {F0:Fz} {n:Nat} {E:List (Nat×SV)} {L L':List bx} {X:Act→World→Prop} (i:Nat) (h:Px i L=some L') (k:aC F0 n E L' X):aC F0 n E L X:=Lu (w7 h) k
end Go.Sim
namespace Go.Sim
open Go
def E5 (p:Prop):bx:= .any λh=>h=bM.emp∧p
section
variable {P:Program} {F0:Fz} {n:Nat} {E:List (Nat×SV)} {L:List bx} {X:Act→World→Prop}
theorem Nh {F:Fz} {w:World} {r:bx} (hr:r.holds F bM.emp) (hs:St F w L):St F w (r::L):=by
 refine⟨bM.emp,hr,λb hb=>absurd rfl hb,?_⟩
 rw[Lh];exact hs
theorem Mm {p:Prop} (hp:p) (k:aC F0 n E (E5 p::L) X):aC F0 n E L X:=λF a w h0 hE hS=>k F a w h0 hE (Nh ⟨rfl,hp⟩ hS)
theorem MN {p:Prop} (k:p→aC F0 n E L X):aC F0 n E (E5 p::L) X:=λF a w h0 hE hS=>by
 have hS0:=hS
 obtain⟨h,hp,_⟩:=hS
 exact k hp.2 F a w h0 hE (St.drop hS0)
theorem M8 {α:Type} {K:Kd α} {v:Value} {e:TypeId} {xs:List α} (k:xs.length≤maxLen→aC F0 n E (.own K v e xs::L) X):aC F0 n E (.own K v e xs::L) X:=λF a w h0 hE hS=>by
 have hS0:=hS
 obtain⟨h,hh,_⟩:=hS
 refine k ?_ F a w h0 hE hS0
 rcases hh with⟨_,rfl,_⟩|⟨g,cap,cur,_,_,h3,h4,_⟩
 · simp
 · omega
theorem Ni {α:Type} {K:Kd α} {v:Value} {e:TypeId} {xs ys:List α} (h:xs=ys) (k:aC F0 n E (.own K v e ys::L) X):aC F0 n E (.own K v e xs::L) X:=h▸k
theorem Nt {α:Type} {K:Kd α} {x:α} {q:Value} {t:Nat} {G:Fz} (hg:G≤F0) (h:look E t=some (.raw q)) (hq:K.val G q x) (k:aC F0 n ((t,.val K x)::E) L X):aC F0 n E L X:=λF a w h0 hE hS=>by
 refine k F a w h0 ⟨hE.defers,hE.size,λu r hl=>?_⟩ hS
 rw[cZ] at hl;split at hl
 · rename_i hk;subst hk;cases hl
   obtain⟨v',h1,h3⟩:=hE.at_ t _ h
   simp only[SV.ok] at h3;subst h3
   exact⟨_,h1,by simp only[SV.ok];exact(hq.mono hg).mono h0⟩
 · exact hE.at_ u r hl
end
section
variable {β γ τ:Type} {KB:Kd β} {KR:Kd γ} {KT:Kd τ} {mk:β→Value→γ} {tg:β→List τ} {TE TT:TypeId} {v:Value}
def sI (KT:Kd τ) (tg:β→List τ) (TT:TypeId) (xs:List β) (qs:List Value):bx:= .any λh=>∃F,vN F (f_ KT tg TT xs qs) h
variable {F0:Fz} {n:Nat} {E:List (Nat×SV)} {L:List bx} {X:Act→World→Prop}
theorem MO (k:aC F0 n E (sI KT tg TT [] []::L) X):aC F0 n E L X:=λF a w h0 hE hS=>k F a w h0 hE (Nh ⟨F,rfl⟩ hS)
theorem Mx (hT:cN KT) {F:Fz} {w:World} {xs:List β} {qs:List Value} (hs:St F w (sI KT tg TT xs qs::L)):St F w (f_ KT tg TT xs qs++L):=by
 obtain⟨h,⟨F',hb⟩,hap,hs'⟩:=hs
 exact LU (qm hT hb) hap hs'
theorem Nj {F:Fz} {w:World} {xs:List β} {qs:List Value} (hs:St F w (f_ KT tg TT xs qs++L)):St F w (sI KT tg TT xs qs::L):=by
 obtain⟨h,hb,hap,hs'⟩:=L6 hs
 exact⟨h,⟨F,hb⟩,hap,hs'⟩
theorem MI {xs xs':List β} {qs qs':List Value} {x:β} {q:Value} (hT:cN KT) (hl:qs.length=xs.length) (hx:xs'=xs++[x]) (hq:qs'=qs++[q]) (k:aC F0 n E (sI KT tg TT xs' qs'::L) X):
  aC F0 n E (sI KT tg TT xs qs:: .own KT q TT (tg x)::L) X:=λF a w h0 hE hS=>by
 subst hx hq
 refine k F a w h0 hE (Nj ?_)
 have e:f_ KT tg TT (xs++[x]) (qs++[q])=f_ KT tg TT xs qs++[.own KT q TT (tg x)]:=zip_push _ hl
 rw[e]
 simpa using Mx hT hS
theorem My {xs ys:List β} {qs qs':List Value} (hT:cN KT) (hl:qs.length=xs.length) (hy:ys=xs) (hq:qs'=qs) (k:aC F0 n E (mO KR KT mk tg TE TT v xs::L) X):
  aC F0 n E (.own KR v TE (List.zipWith mk xs qs)::sI KT tg TT ys qs'::L) X:=λF a w h0 hE hS=>by
 subst hy hq
 refine k F a w h0 hE (Lj hl ?_)
 have h1:St F w (sI KT tg TT ys qs':: .own KR v TE (List.zipWith mk ys qs')::L):=hS.perm (List.Perm.swap _ _ _)
 exact(Mx hT h1).perm Ix
theorem ut {F:Fz} (htr:∀cs x,KB.rd F cs x→∃q,KR.rd F cs (mk x q)∧(bE KT).val F q (tg x)):∀{xs:List β} {cs:List Value},cr KB F cs xs→∃qs:List Value,qs.length=xs.length∧cr KR F cs (List.zipWith mk xs qs)∧∀p∈List.zip xs qs,(bE KT).val F p.2 (tg p.1)
 |[],cs,h=>⟨[],rfl,h,λp hp=>by cases hp⟩
 |x::xs,cs,⟨c,d,e,h,r⟩=>by
  obtain⟨q,h1,h2⟩:=htr c x h
  obtain⟨qs,hl,h3,h4⟩:=ut htr r
  refine⟨q::qs,by simp[hl],⟨c,d,e,h1,h3⟩,λp hp=>?_⟩
  rcases Hc.1 (by simpa using hp) with rfl|hp
  · exact h2
  · exact h4 p hp
theorem MP {xs:List β} (hn:KB.n=KR.n) (htr:∀F cs x,KB.rd F cs x→∃q,KR.rd F cs (mk x q)∧(bE KT).val F q (tg x))
  (k:∀G qs,F0≤G→qs.length=xs.length→(∀p∈List.zip xs qs,(bE KT).val G p.2 (tg p.1))→aC G n E (.own KR v TE (List.zipWith mk xs qs)::L) X):aC F0 n E (.own KB v TE xs::L) X:=λF a w h0 hE hS=>by
 obtain⟨h,hh,hap,hs'⟩:=hS
 have:∃qs:List Value,qs.length=xs.length∧(∀p∈List.zip xs qs,(bE KT).val F p.2 (tg p.1))∧(bx.own KR v TE (List.zipWith mk xs qs)).holds F h:=by
  rcases hh with⟨h1,rfl,h3⟩|⟨g,cap,cur,a1,a2,a3,a4,a5,a6⟩
  · exact⟨[],rfl,(λp hp=>by cases hp),.inl ⟨h1,rfl,h3⟩⟩
  · obtain⟨qs,hl,h3,h4⟩:=ut (htr F) a6
    have hlen:(List.zipWith mk xs qs).length=xs.length:=by simp[hl]
    exact⟨qs,hl,h4,.inr ⟨g,cap,cur,by rw[hlen];exact a1,a2,by rw[hlen];exact a3,a4,by rw[←hn];exact a5,by rw[hlen,←hn];exact h3⟩⟩
 obtain⟨qs,hl,hv,hc⟩:=this
 exact k F qs h0 hl hv F a w (LO F) hE ⟨h,hc,hap,hs'⟩
end
end Go.Sim
