import Derived.Test.YtkjlhdndbdenaaaGreatDoorSimC
import Derived.Scope
import Derived.Lib.ConvBytes
import Derived.Laws.AppendOwn
set_option linter.all false
set_option autoImplicit true
set_option relaxedAutoImplicit true
set_option autoImplicit true
set_option relaxedAutoImplicit true
namespace Go.Sim
open Go
section
variable {P:Program} {Q:Exit→Act→World→Prop} {F0:Fz} {n:Nat} {E:List (Nat×SV)} {L:List bJ}
theorem bx.scope {c:Code} (k:bx F0 n E L (c.wp P (Exit.noGoto Q))):bx F0 n E L ((Code.scope c).wp P Q):=λF a w h0 hE hS=>wp_scope_straight (k F a w h0 hE hS)
theorem Co (k:bx F0 n E L (Q .ret)):bx F0 n E L (Exit.noGoto Q .ret):=k
theorem bx.label (k:bx F0 n E L (Q .normal)):bx F0 n E L ((Code.label l).wp P Q):=λF a w h0 hE hS=>wp_label (k F a w h0 hE hS)
end
def tE (s:SV):Prop:=∀F G u,s.ok F u→s.ok G u
theorem tE.raw:tE (.raw v):=λF G u h=>by simp only[SV.ok] at*;exact h
theorem tE.val (hK:ek K):tE (.val K x):=λF G u h=>by simp only[SV.ok] at*;obtain⟨cs,a,b⟩:=h;exact⟨cs,hK _ _ _ _ a,b⟩
def rn {α:Type} (v:Value) (K:Kd α) (xs:List α):List SV→List SV→Prop|[],[]=>True|a::l,b::l'=>(a=b∨(a= .raw v∧b= .val (cI K) xs))∧rn v K xs l l'|_,_=>False
theorem mq (hv:(cI K).val F v xs):∀{l l':List SV} {vs:List Value},rn v K xs l l'→SV.oks F vs l→SV.oks F vs l'|[],[],vs,_,h=>h|a::l,b::l',[],_,h=>by simp only[SV.oks] at h|a::l,b::l',u::vs,hl,h=>by simp only[SV.oks] at h⊢;obtain⟨h1,h2⟩:=hl;refine⟨?_,mq hv h2 h.2⟩;rcases h1 with rfl|⟨rfl,rfl⟩;exact h.1;have:=h.1;simp only[SV.ok] at this⊢;subst this;exact hv|[],_::_,_,hl,_=>hl.elim|_::_,[],_,hl,_=>hl.elim
theorem mr {K:Kd α} {xs:List α} {F:Fz} (a:oB F h) (hh:(bJ.own K v e xs).holds (F.add h) h):(cI K).val (F.add h) v xs:=by rcases hh with⟨rfl,rfl,_⟩|⟨g,cap,cur,rfl,rfl,h3,h4,h5,h6⟩;exact⟨[.slice none 0 0],⟨none,0,rfl,wy _,.inl rfl⟩,rfl⟩;refine⟨[.slice (some ⟨g,0,none⟩) xs.length cap],⟨_,cap,rfl,h3,.inr ⟨⟨g,0,none⟩,cur,e,(0,0),rfl,rfl,?_,?_,by simpa using h6⟩⟩,rfl⟩;have hg:F.blk g=none:=a g (by rw[zN];simp);simp only[Fz.add,hg];exact zN _ _;have:xs.length*K.n≤cap*K.n:=wh _ h3;simp only;omega
def Fz.but (G F:Fz) (h:cD) (a:F≤G) (c:oB F h):Fz:={G with blk:=λb=>match h b with|none=>G.blk b|some _=>none,glob:=⟨λg k xs e=>by obtain⟨T,fr,q⟩:=F.glob.on g k xs e;(have h1:h g=none:=by cases hh:h g with|none=>rfl|some o=>have:=c g (by rw[hh];simp);rw[this] at q;cases q);exact⟨T,fr,by simp only[h1];exact a.blk _ _ q⟩⟩}
theorem kO {F G:Fz} (hr:(bJ.own K v e xs).holds F h) (c:oB F h) (hg:F.add h≤G):∃B,F≤B∧(bJ.own K v e xs).holds B h∧oB B h∧B.add h=G:=by have a:F≤G:=Au (F.le_add h) hg;have d:F≤G.but F h a c:=⟨λb o hb=>by(have f:h b=none:=by cases hh:h b with|none=>rfl|some q=>have:=c b (by rw[hh];simp);rw[this] at hb;cases hb);simp only[Fz.but,f];exact a.blk _ _ hb,a.os,a.tape,a.output⟩;refine⟨G.but F h a c,d,bJ.mono d hr,λb hb=>?_,?_⟩;(cases hh:h b with|none=>exact absurd hh hb|some q=>simp only[Fz.but,hh]);cases G with|mk blk os tape i g=>simp only[Fz.but,Fz.add,Fz.mk.injEq,ze];funext b;cases hh:h b with|none=>simp only[];cases blk b<;>rfl|some q=>simp only[];(have:(F.add h).blk b=some q:=by have hF:=c b (by rw[hh];simp);simp only[Fz.add,hF];exact hh);exact(hg.blk _ _ this).symm
theorem AQ {L:List bJ} (ho:∀L,Ok P f l' L s L) (hl:rn v K xs l l') (hf:tE s):Ok P f l (.own K v e xs::L) s (.own K v e xs::L):=λF w vs c hS=>by obtain⟨h,hr,a,d⟩:=hS;have b:F≤F.add h:=F.le_add h;have h1:SV.oks (F.add h) vs l':=mq (mr a (bJ.mono b hr)) hl (AB b c);have h2:St (F.add h) w (L.map (bJ.fix F)):=(gI.fix F (F.add h)).1 d;refine(ho _ (F.add h) w vs h1 h2).mono λe' w' ⟨G,u,he,hg,g,i⟩=>?_;obtain⟨B,b1,b2,b3,b4⟩:=kO hr a hg;refine⟨B,u,he,b1,⟨h,b2,b3,?_⟩,hf _ _ _ i⟩;rw[b4];exact gI.mono b1 ((gI.fix F G).2 g)
theorem Cz {P:Program} {f:FuncId} {α:Type} {K:Kd α} {v:Value} {e:TypeId} {xs:List α} {l l':List SV} {C:Type} {s:C→SV} {r:C→bJ} {L:List bJ} (ho:∀L,vI P f l' L s (λy=>r y::L)) (hl:rn v K xs l l') (hf:∀y,tE (s y)) (hq:∀y F G h,(r y).holds F h→(r y).holds G h):vI P f l (.own K v e xs::L) s (λy=> .own K v e xs::r y::L):=λF w vs c hS=>by obtain⟨h,hr,a,d⟩:=hS;have b:F≤F.add h:=F.le_add h;have h1:SV.oks (F.add h) vs l':=mq (mr a (bJ.mono b hr)) hl (AB b c);have h2:St (F.add h) w (L.map (bJ.fix F)):=(gI.fix F (F.add h)).1 d;refine(ho _ (F.add h) w vs h1 h2).mono λe' w' ⟨y,G,u,he,hg,hS',g⟩=>?_;obtain⟨B,b1,b2,b3,b4⟩:=kO hr a hg;obtain⟨k,k1,k2,k3⟩:=hS';refine⟨y,B,u,he,b1,⟨h,b2,b3,?_⟩,hf _ _ _ _ g⟩;rw[b4];exact⟨k,hq y _ _ _ k1,k2,gI.mono b1 ((gI.fix F G).2 k3)⟩
theorem qb {K:Kd α}:∀{xs:List α} {cs:List Value} {h:Nat},bd K F (cs.take (xs.length*K.n)) xs→h≤xs.length→bd K F (cs.take (h*K.n)) (xs.take h)|xs,cs,0,_,_=>by rw[zk,yh,yh];exact rfl|[],cs,h+1,_,hh=>by simp at hh|x::xs,cs,h+1,hr,hh=>by obtain⟨c,d,e,a,b⟩:=hr;have hc:=K.len a;(have e1:cs.take ((h+1)*K.n)=c++d.take (h*K.n):=by have h2:(h+1)*K.n≤(x::xs).length*K.n:=wh _ hh;(have h3:cs.take ((h+1)*K.n)=(cs.take ((x::xs).length*K.n)).take ((h+1)*K.n):=by rw[yg,wX h2]);rw[h3,e,List.take_append,hc,w7];(have h4:h*K.n+K.n - K.n=h*K.n:=by omega);rw[h4,wn (by omega)]);(have h5:d=d.take (xs.length*K.n):=by have h6:=congrArg List.length e;rw[wi,wx,hc,xu,w7] at h6;rw[wn (by omega)]);rw[e1];exact⟨c,_,rfl,a,qb (by rw[←h5];exact b) (by simpa using hh)⟩
theorem Bp {K:Kd α} {xs:List α} (hh:h≤xs.length) (k:bx F0 n E (.own K (qD v 0 h K.n) e (xs.take h)::L) X):bx F0 n E (.own K v e xs::L) X:=λF a w h0 hE hS=>k F a w h0 hE (hS.map λf hf=>by rcases hf with⟨rfl,rfl,rfl⟩|⟨g,cap,cur,rfl,rfl,h3,h4,h5,h6⟩;(have:h=0:=by simpa using hh);subst this;exact .inl ⟨rfl,rfl,rfl⟩;(have hl:(xs.take h).length=h:=by rw[wx,wX hh]);refine .inr ⟨g,cap,cur,?_,rfl,by omega,h4,h5,by rw[hl];exact qb h6 hh⟩;rw[hl];unfold qD;simp only[Nat.sub_zero];split<;>simp[Addr.add])
theorem A7 {L:List bJ}
      (ho:∀L,ea P n ((t,.val (cI K) xs)::E) L ⟨some d,op,ty,pos,aft,none⟩ s) (ht:look E t=some (.raw v)) (hf:tE s) (hd:Nat.blt d n=true)
  (k:bx F0 n ((d,s)::E) (.own K v e xs::L) (wpList P ops Q rest)):bx F0 n E (.own K v e xs::L) (wpList P ops Q (⟨some d,op,ty,pos,aft,none⟩::rest)):=
 zQ rfl λF a w h0 hE hS=>by
  have hS0:=hS
  obtain⟨h,hr,hap,hs'⟩:=hS
  have hle:F≤F.add h:=F.le_add h
  have hval:=mr hap (bJ.mono hle hr)
  have h2:St (F.add h) w (L.map (bJ.fix F)):=(gI.fix F (F.add h)).1 hs'
  have hE':Env (F.add h) a n ((t,.val (cI K) xs)::E):=⟨hE.defers,hE.size,λu r hl=>by
   rw[bS] at hl;split at hl
   · rename_i hk;subst hk;cases hl
     obtain⟨v',h1,h3⟩:=hE.at_ t _ ht
     simp only[SV.ok] at h3;subst h3
     exact⟨_,h1,by simp only[SV.ok];exact hval⟩
   · exact(hE.mono hle).at_ u r hl⟩
  obtain⟨u,hu,this⟩:=ho (L.map (bJ.fix F)) (F.add h) a hE'
  have this:=this w ⟨F.add h,A5 _,h2⟩
  have hu':=hf _ F _ hu
  unfold Oper.quietAt at this
  unfold Oper.wp
  generalize (execOp a.eval (⟨some d,op,ty,pos,aft,none⟩:Oper)).run P w=r at this
  cases r with
  |halt x w'=>exact this.elim
  |ok nx w'=>
   cases nx<;>simp only[Oper.quietUpon] at this<;>simp only[Oper.upon]
   case value u=>obtain⟨rfl,rfl⟩:=this;exact k _ _ _ h0 (hE.put hd hu') hS0
   case skip=>obtain⟨rfl,rfl⟩:=this;exact k _ _ _ h0 (hE.put hd hu') hS0
   case enter f args=>
     obtain⟨rfl,hc⟩:=this
     exact hc.mono λe w'' ⟨he,G,hg,hw⟩=>by
      subst he
      obtain⟨B,b1,b2,b3,b4⟩:=kO hr hap hg
      exact k B _ _ (Au h0 b1) ((hE.mono b1).put hd (Ao b1 hu')) ⟨h,b2,b3,by rw[b4];exact gI.mono b1 ((gI.fix F G).2 hw)⟩
end Go.Sim
namespace Go.Sim
open Go
theorem sb {E':List (Nat×SV)} (h:E'.map (λp=>look E p.1)=E'.map (λp=>some p.2)):∀t v,look E' t=some v→look E t=some v:=by induction E' with|nil=>exact gR E|cons p E' ih=>obtain⟨k,u⟩:=p;simp only[wS,List.cons.injEq] at h;exact aM h.1 (ih h.2)
def mt:Nat→List bJ→List bJ→List bJ|0,_,T=>T|k+1,r::l,T=>r::mt k l T|_+1,[],T=>T
def ro:Nat→List bJ→List bJ|0,l=>l|k+1,_::l=>ro k l|_+1,[]=>[]
theorem jO:∀(k:Nat) (l:List bJ),mt k l (ro k l)=l|0,_=>rfl|k+1,r::l=>by simp only[mt,ro,jO k l]|_+1,[]=>rfl
theorem mu:∀(k:Nat) (l:List bJ) (r:bJ) (T:List bJ),(r::mt k l T).Perm (mt k l (r::T))|0,_,_,_=> .refl _|k+1,q::l,r,T=>(List.Perm.swap _ _ _).trans (.cons _ (mu k l r T))|_+1,[],_,_=> .refl _
section
variable {P:Program} {ops:Array Oper} {Q:Exit→Act→World→Prop} {rest:List Oper} {F0:Fz} {n:Nat} {E:List (Nat×SV)} {L:List bJ}
variable {D:List Nat} {d:Nat} {op:Op} {ty:TypeId} {pos:String} {aft:Array Edge} {s:SV} {Lf:List bJ→List bJ} {tab:List pA}
def ua (G:Fz) (L:List bJ) (d:Nat) (s:SV):Act→World→Prop:=λa w=>∃(H:Fz) (_:Value),G≤H∧(∃u,a.tmps[d]? =some u∧s.ok H u)∧St H w L∧a.defers=[]
def nI (P:Program) (n:Nat) (Lf:List bJ→List bJ) (a:Array Oper) (F0:Fz) (K:List (Nat×SV)→Prop):List (List Nat)→List Oper→List (Nat×SV)→Prop|us::p,o::l,E=>∃d s,o.dst=some d∧(∀G T,F0≤G→bx G n (eQ us E) (Lf T) (wpList P a (Exit.then (ua G (Lf T) d s) QF) [o]))∧nI P n Lf a F0 K p l ((d,s)::E)|[],[],E=>K E|_,_,_=>False
theorem ub (hk:∀E,K E→K' E):∀{its:List mB} {p:List (List Nat)} {l:List Oper} {E:List (Nat×SV)} {j:Nat},i_ P n tab Lf a F0 bs K j its p l E→i_ P n tab Lf a F0 bs K' j its p l E|[],[],[],_,_,h=>hk _ h|_::_,_::_,_::_,_,_,h=>⟨h.1,ub hk h.2⟩|[],_::_,_,_,_,h=>by simp[i_] at h|[],[],_::_,_,_,h=>by simp[i_] at h|_::_,[],_,_,_,h=>by simp[i_] at h|_::_,_::_,[],_,_,h=>by simp[i_] at h
def Dh (l:List SV):List mB:=l.map λs=>⟨gC s,[],[],[]⟩
theorem uc:∀{p:List (List Nat)} {l:List Oper} {E:List (Nat×SV)},nI P n Lf a F0 K p l E→∃vs:List SV,∀G,F0≤G→∀bs j,i_ P n [] Lf a G bs K j (Dh vs) p l E|[],[],E,h=>⟨[],λ_ _ _ _=>h⟩|us::p,o::l,E,h=>by obtain⟨d,s,hd,h1,h2⟩:=h;obtain⟨vs,hv⟩:=uc h2;refine⟨s::vs,λG hG bs j=>⟨λR hR G' T b=>?_,?_⟩⟩;simp only[gt,xO] at hR;subst hR;rw[hd];exact h1 G' T (Au hG b);rw[hd];exact hv G hG bs (j+1)|[],_::_,_,h=>h.elim|_::_,[],_,h=>h.elim
theorem Vq.v (h:∀G T,F0≤G→bx G n (eQ us E) (Lf T) (wpList P a (Exit.then (ua G (Lf T) d s) QF) [⟨some d,op,ty,pos,aft,g⟩])) (k:nI P n Lf a F0 K p l ((d,s)::E)):nI P n Lf a F0 K (us::p) (⟨some d,op,ty,pos,aft,g⟩::l) E:=⟨d,s,rfl,h,k⟩
def zM:=@Vq.v
theorem zu (hd:look E d=some s):bx F0 n E L (wpList P b (Exit.then (ua F0 L d s) QF) []):=λF a w h0 hE hS=>⟨F,undef,h0,hE.at_ d _ hd,hS,hE.defers⟩
theorem vo (h:∀L,ea P n (eQ us E) L ⟨some d,op,ty,pos,aft,none⟩ s) (hd:Nat.blt d n=true) (k:nI P n Lf a F0 K p l ((d,s)::E)):nI P n Lf a F0 K (us::p) (⟨some d,op,ty,pos,aft,none⟩::l) E:=zM (λG T _=>Ab (h _) hd (zu (by simp[look]))) k
theorem vm (h:ev (eQ us E) x=some s) (hd:Nat.blt d n=true) (k:nI P n Lf a F0 K p l ((d,s)::E)):nI P n Lf a F0 K (us::p) (⟨some d,.move x,ty,pos,aft,none⟩::l) E:=vo (λ_=>ea.move h) hd k
theorem vb (hX:ev (eQ us E) X=some (.raw (.int i x))) (hY:ev (eQ us E) Y=some (.raw (.int i y))) (hv:uB b i x y=some v) (hd:Nat.blt d n=true) (k:nI P n Lf a F0 K p l ((d,.raw v)::E)):nI P n Lf a F0 K (us::p) (⟨some d,.binOp b t X Y u,ty,pos,aft,none⟩::l) E:=vo (λ_=>BB hX hY hv) hd k
theorem vn (h:bx F0 n E L (ir P Q l D)):nI P n Lf a F0 (λE'=>bx F0 n E' L (ir P Q l D)) [] [] E:=h
theorem rp:∀(vs:List SV) (j:Nat),wE (Dh vs) j=[]|[],_=>rfl|s::vs,j=>by simp only[Dh,wS,wE,x7,wQ];exact rp vs (j+1)
theorem kl:∀vs:List SV,gz (Dh vs)=[]|[]=>rfl|s::vs=>by have:=kl vs;simp only[gz,Dh,wS,List.flatMap_cons,wQ] at*;exact this
theorem qc (l:List Oper) (g:List Nat) (a:List mB) (hf:gz a=[]):∀(vs:List SV) (j:Nat),mj l g [] a (Dh vs) j=true|[],_=>rfl|s::vs,j=>by have ih:=qc l g a hf vs (j+1);simp only[Dh,wS,mj] at ih⊢;rw[ih];simp[Dr,gC]
theorem B2 {l:List Oper} (g:List Nat) (p:List (List Nat)) (k:Nat) (hB:ly l D g p=true) (hn:(pick l g).all (λo=>match o.dst with|some d=>Nat.blt d n|none=>true)=true) (h:nI P n (mt k L) l.toArray F0 (λE'=>bx F0 n E' L (ir P Q l (g++D))) p (pick l g) E):bx F0 n E L (ir P Q l D):=by obtain⟨vs,hv⟩:=uc h;(have e1:eI [] (Dh vs)=[]:=by simp only[eI,x7,wQ];exact rp vs 0);refine Aq (L0:=L) (L:=ro k L) g p (Dh vs) [] (mt k L) (mu k L) (jO k L) hB ?_ hn (λF hF bs=>?_);simp only[z8,e1,kl,qc l g _ (kl vs) vs 0];rfl;rw[e1,kl];refine ub (λE' hk=>?_) (hv F hF bs 0);simp only[v5,wQ,jO];exact AC hF hk
theorem eB {x:Code} (e:R→List (Nat×SV)) (l:R→List bJ) (hk:bx F0 n (e r) (l r) K) (h:∀K',(∀x,r=x→bx F0 n (e x) (l x) K')→bx F0 n E L (x.wp P (Exit.then K' Q))):bx F0 n E L (x.wp P (Exit.then K Q)):=h K λx hx=>hx▸hk
theorem lp [Fu] {S R C:Type} {step:S→Option (j_ S R)} {x0:S} {r:R} {c:Code} (d:Loop.run step x0=some r) (c0:C) (Es:S→C→List (Nat×SV)) (Ls:S→C→List bJ) (hE:(Es x0 c0).map (λp=>look E p.1)=(Es x0 c0).map (λp=>some p.2)) (hL:L=Ls x0 c0) (b:∀x y o,step x=some o→(∀q,o= .done q→q=r)→bx F0 n (Es x y) (Ls x y) (c.wp P (Exit.then (λa w=>∃x' y' F,o= .next x'∧F0≤F∧Env F a n (Es x' y')∧St F w (Ls x' y')) Q))):bx F0 n E L ((Code.loop c).wp P Q):=bx.loop c0 Es Ls d (sb hE) hL b
theorem nx {S R C:Type} {o:j_ S R} {Es:S→C→List (Nat×SV)} {Ls:S→C→List bJ} {x':S} (y':C) (ho:(some (j_.next x'):Option (j_ S R))=some o) (hE:(Es x' y').map (λp=>look E p.1)=(Es x' y').map (λp=>some p.2)) (hL:L=Ls x' y'):bx F0 n E L (λa w=>∃x' y' F,o= .next x'∧F0≤F∧Env F a n (Es x' y')∧St F w (Ls x' y')):=bx.next x' y' ho (sb hE) hL
theorem wr {E':List (Nat×SV)} (k:bx F0 n E' L X) (hs:E'.map (λp=>look E p.1)=E'.map (λp=>some p.2)):bx F0 n E L X:=BW k (sb hs)
theorem dA {fn:Func} {c:Code} {a:List SV} (m:Nat) (hf:P.funcs[f]? =some fn) (hb:fn.body=some c) (hn:fn.ntmps=m) (hl:Nat.ble a.length m=true) (k:∀F0,bx F0 m (xE 0 a) L (c.wp P (bodyPost P fn λe w'=>∃G v,e= .returned v∧F0≤G∧St G w' L'∧s.ok G v))):Ok P f a L s L':=Cq m _ hf hb hn hl rfl k
end
abbrev sP:=@Cn
abbrev lP:=@Cm
abbrev rI:=@BV
abbrev ca:=@bx.call
abbrev it:=@Cb
abbrev al:=@Cr
abbrev fz:=@Cd
abbrev ld:=@BY
abbrev f1:=@Bu
abbrev f2:=@Bv
abbrev f3:=@Bw
abbrev f4:=@Bx
abbrev ap:=@bx.app
abbrev tV:=@Ck
abbrev bO:=@Cf
abbrev bF:=@Ce
abbrev bX:=@Cc
abbrev pn:=@Cw
abbrev p1:=@Cv
abbrev pd:=@BP
abbrev ph:=@BD
abbrev gV:=@B2
abbrev rs:=@Bl
abbrev pb (b:Nat):SV:= .raw (.pointer (some ⟨b,0,none⟩))
abbrev i64 (x:Int):SV:= .raw (.int .i64 x)
theorem bs {α β:Type} {x:Option α} {f:α→Option β} {r:β} {G:Prop} (h:x.bind f=some r) (k:∀a,x=some a→f a=some r→G):G:=let ⟨a,b,c⟩:=eJ h;k a b c
theorem gs {c:Bool} {α:Type} {x:Option α} {r:α} {G:Prop} (h:(bif c then x else none)=some r) (k:c=true→x=some r→G):G:=let ⟨a,b⟩:=z1 h;k a b
section
variable {P:Program} {ops:Array Oper} {Q:Exit→Act→World→Prop} {rest:List Oper} {F0:Fz} {n:Nat} {E:List (Nat×SV)} {L:List bJ}
variable {d e:Nat} {op:Op} {ty ty':TypeId} {pos pos':String} {aft aft':Array Edge} {s:SV}
theorem m_ (h:(ev E x,Nat.blt d n)=(some s,true)) (k:bx F0 n ((d,s)::E) L (wpList P b Q a)):bx F0 n E L (wpList P b Q (⟨some d,.move x,ty,pos,aft,none⟩::a)):=mv (Prod.mk.inj h).1 (Prod.mk.inj h).2 k
theorem a_ (h:(ev E x,Nat.blt d n)=(some s,true)) (k:bx F0 n ((d,s)::E) L (wpList P b Q a)):bx F0 n E L (wpList P b Q (⟨some d,.assign x,ty,pos,aft,none⟩::a)):=ag (Prod.mk.inj h).1 (Prod.mk.inj h).2 k
theorem b_ (h:(ev E X,ev E Y,uB b i x y,Nat.blt d n)=(some (.raw (.int i x)),some (.raw (.int i y)),some v,true)) (k:bx F0 n ((d,.raw v)::E) L (wpList P c Q a)):bx F0 n E L (wpList P c Q (⟨some d,.binOp b t X Y u,ty,pos,aft,none⟩::a)):=by simp only[Prod.mk.injEq] at h;exact bn h.1 h.2.1 h.2.2.1 h.2.2.2 k
theorem mb (h:(ev E x,Nat.blt d n,ev ((d,s)::E) X,ev ((d,s)::E) Y,uB b i p q,Nat.blt e n)=(some s,true,some (.raw (.int i p)),some (.raw (.int i q)),some v,true)) (k:bx F0 n ((e,.raw v)::(d,s)::E) L (wpList P c Q a)):bx F0 n E L (wpList P c Q (⟨some d,.move x,ty,pos,aft,none⟩::⟨some e,.binOp b t X Y u,ty',pos',aft',none⟩::a)):=by simp only[Prod.mk.injEq] at h;exact mv h.1 h.2.1 (bn h.2.2.1 h.2.2.2.1 h.2.2.2.2.1 h.2.2.2.2.2 k)
theorem oL (hT:KT P T K) (h:(ev E X,Nat.blt d n)=(some (.ptr K x),true)) (k:bx F0 n ((d,.val K x)::E) L (wpList P b Q a)):bx F0 n E L (wpList P b Q (⟨some d,.load T X,ty,pos,aft,none⟩::a)):=Ab (Ai hT (Prod.mk.inj h).1) (Prod.mk.inj h).2 k
theorem oI (hT:KT P T (bB i)) (h:(ev E X,Nat.blt d n)=(some (.ptr (bB i) x),true)) (k:bx F0 n ((d,.raw (.int i x))::E) L (wpList P b Q a)):bx F0 n E L (wpList P b Q (⟨some d,.load T X,ty,pos,aft,none⟩::a)):=Ab (zS hT (Prod.mk.inj h).1) (Prod.mk.inj h).2 k
theorem oE (h:(ev E X,l[i]?,Nat.blt d n)=(some (.tup l),some s,true)) (k:bx F0 n ((d,s)::E) L (wpList P b Q a)):bx F0 n E L (wpList P b Q (⟨some d,.extract X i,ty,pos,aft,none⟩::a)):=by simp only[Prod.mk.injEq] at h;exact Ab (Ap h.1 h.2.1) h.2.2 k
theorem oN {xs:List α} (ht:P.underlying t=some (.slice e)) (h:(ev E X,Nat.blt d n)=(some (.val (cI K) xs),true)) (k:bx F0 n ((d,.raw (.int .i64 xs.length))::E) L (wpList P b Q a)):bx F0 n E L (wpList P b Q (⟨some d,.call ⟨.builtin .len,#[X],#[t]⟩,ty,pos,aft,none⟩::a)):=Ab (ea.len ht (Prod.mk.inj h).1 bH) (Prod.mk.inj h).2 k
theorem oF {f:en β} (hT:c8 P T i=some (eb fs i,m+1)) (h:(ev E X,fs[i]?,Nat.blt d n)=(some (.ptr (h_ fs) x),some f,true)) (k:bx F0 n ((d,.ptr f.K (f.get x))::E) L (wpList P b Q a)):bx F0 n E L (wpList P b Q (⟨some d,.fieldAddr T X i,ty,pos,aft,none⟩::a)):=by simp only[Prod.mk.injEq] at h;exact Ab (AU hT h.2.1 h.1) h.2.2 k
theorem oM (hT:c8 P T i=some (o,m+1)) (h:(ev E X,Nat.blt d n)=(some (.raw (.pointer (some ⟨b,off,none⟩))),true)) (k:bx F0 n ((d,.raw (.pointer (some ⟨b,off+o,none⟩)))::E) L (wpList P c Q a)):bx F0 n E L (wpList P c Q (⟨some d,.fieldAddr T X i,ty,pos,aft,none⟩::a)):=Ab (AW hT (Prod.mk.inj h).1) (Prod.mk.inj h).2 k
theorem oX {K:Kd α} {i:Int} (hb:rB r R b K0 x) (p:At K0 x off (bG m K) xs up) (hi:idx xs i=some z) (hT:P.underlying T=some (.array m e)) (hs:(P.info? e).map (·.size)=some K.n) (h:(ev E X,ev E I,Nat.blt d n)=(some (.raw (.pointer (some ⟨b,off,none⟩))),some (.raw (.int q i)),true)) (k:bx F0 n ((d,.raw (.pointer (some ⟨b,off+i.toNat*K.n,none⟩)))::E) (r::L) (wpList P c Q a)):bx F0 n E (r::L) (wpList P c Q (⟨some d,.indexAddr T X I,ty,pos,aft,none⟩::a)):=by simp only[Prod.mk.injEq] at h;exact Ab (CC hb p hi hT hs h.1 h.2.1) h.2.2 k
theorem oS {K:Kd α} (hx:idx xs i=some x) (hT:P.underlying T=some (.slice e)) (hs:(P.info? e).map (·.size)=some K.n) (h:(ev E X,ev E I,Nat.blt d n)=(some (.val (cI K) xs),some (.raw (.int q i)),true)) (k:bx F0 n ((d,.ptr K x)::E) L (wpList P b Q a)):bx F0 n E L (wpList P b Q (⟨some d,.indexAddr T X I,ty,pos,aft,none⟩::a)):=by simp only[Prod.mk.injEq] at h;exact Ab (An hx hT hs h.1 bH h.2.1) h.2.2 k
theorem oC {i:IntKind} (hs:(P.underlying q).isSome=true) (ht:P.underlying t=some (.int i)) (h:(ev E X,Nat.blt d n)=(some (.raw (.int j x)),true)) (k:bx F0 n ((d,.raw (.int i (i.wrap x)))::E) L (wpList P b Q a)):bx F0 n E L (wpList P b Q (⟨some d,.convert q t X,ty,pos,aft,none⟩::a)):=Ab (AE hs ht (Prod.mk.inj h).1) (Prod.mk.inj h).2 k
theorem cx {xs:List Operand} (hc:∀a w,(callFunc f a).run P w= .ok (.enter f a) w) (h:(ev E X,Dt E xs,Nat.blt d n)=(some (.raw (.func (.func f) #[] #[])),some l,true)) (ho:Ok P f l L s L') (k:bx F0 n ((d,s)::E) L' (wpList P c Q b)):bx F0 n E L (wpList P c Q (⟨some d,.call ⟨.value X,xs.toArray,tys⟩,ty,pos,aft,none⟩::b)):=by simp only[Prod.mk.injEq] at h;exact bx.call hc h.1 h.2.1 ho h.2.2 k
theorem cK (hc:c=b) (h:((a[j]?).bind (·.dst),look E g)=(some g,some (.raw (.bool c)))) (k:bx F0 n E L (wpList P a Q (⟨o,op,ty,pos,aft,none⟩::rest))):bx F0 n E L (wpList P a Q (⟨o,op,ty,pos,aft,some (j,b)⟩::rest)):=gc hc (Prod.mk.inj h).1 (Prod.mk.inj h).2 k
theorem cC (hc:c= !b) (h:((ops[j]?).bind (·.dst),look E g,Nat.blt u n)=(some g,some (.raw (.bool c)),true)) (k:bx F0 n ((u,.raw undef)::E) L (wpList P ops Q rest)):bx F0 n E L (wpList P ops Q (⟨some u,op,ty,pos,aft,some (j,b)⟩::rest)):=by simp only[Prod.mk.injEq] at h;exact sk hc h.1 h.2.1 h.2.2 k
theorem pT (hc:c=true) (h:(ev E x,ev E y,Nat.blt d n)=(some (.raw (.bool c)),some s,true)) (k:bx F0 n ((d,s)::E) L (wpList P b Q a)):bx F0 n E L (wpList P b Q (⟨some d,.pick x y z,ty,pos,aft,none⟩::a)):=by simp only[Prod.mk.injEq] at h;exact Ab (FV hc h.1 h.2.1) h.2.2 k
theorem pF (hc:c=false) (h:(ev E x,ev E z,Nat.blt d n)=(some (.raw (.bool c)),some s,true)) (k:bx F0 n ((d,s)::E) L (wpList P b Q a)):bx F0 n E L (wpList P b Q (⟨some d,.pick x y z,ty,pos,aft,none⟩::a)):=by simp only[Prod.mk.injEq] at h;exact Ab (Gf hc h.1 h.2.1) h.2.2 k
theorem cH (h:(ev (eQ us E) x,Nat.blt d n)=(some s,true)) (k:nI P n Lf a F0 K p l ((d,s)::E)):nI P n Lf a F0 K (us::p) (⟨some d,.move x,ty,pos,aft,none⟩::l) E:=vm (Prod.mk.inj h).1 (Prod.mk.inj h).2 k
theorem dI (h:(ev (eQ us E) X,ev (eQ us E) Y,uB b i x y,Nat.blt d n)=(some (.raw (.int i x)),some (.raw (.int i y)),some v,true)) (k:nI P n Lf a F0 K p l ((d,.raw v)::E)):nI P n Lf a F0 K (us::p) (⟨some d,.binOp b t X Y u,ty,pos,aft,none⟩::l) E:=by simp only[Prod.mk.injEq] at h;exact vb h.1 h.2.1 h.2.2.1 h.2.2.2 k
end
end Go.Sim
namespace Go.Sim
open Go
section
variable {P:Program} {ops:Array Oper} {Q:Exit→Act→World→Prop} {rest:List Oper} {F0:Fz} {n:Nat} {E:List (Nat×SV)} {L:List bJ}
variable {d:Nat} {op:Op} {ty:TypeId} {pos:String} {aft:Array Edge} {s:SV}
end
end Go.Sim
namespace Go.Sim
open Go
section
variable {P:Program} {ops:Array Oper} {Q:Exit→Act→World→Prop} {rest:List Oper} {F0:Fz} {n:Nat} {E:List (Nat×SV)} {L:List bJ}
variable {τ:Type} {KT:Kd τ} {TE TT:TypeId} {v:Value}
abbrev nf (KT:Kd τ) (TE TT:TypeId) (v:Value) (xs:List (List τ)):bJ:=lb dK KT (λ(_:List τ) (q:Value)=>q) (λx:List τ=>x) TE TT v xs
theorem oe:∀{xs:List (List τ)} {qs:List Value},qs.length=xs.length→List.zipWith (λ(_:List τ) (q:Value)=>q) xs qs=qs|[],[],_=>rfl|x::xs,q::qs,h=>by rw[List.zipWith_cons_cons,oe (by simpa using h)]|[],_::_,h=>by simp at h|_::_,[],h=>by simp at h
theorem AJ {xs:List (List τ)} {i:Int} (hT:ek KT) (hi:idx xs i=some x) (k:∀(q:Value) (ys:List Value) (Rs:List bJ),ys.length=xs.length→idx ys i=some q→(∀x' q' F w L',St F w (.own dK v TE (List.set ys i.toNat q'):: .own KT q' TT x'::(Rs++L'))→St F w (nf KT TE TT v (List.set xs i.toNat x')::L'))→bx F0 n E (.own dK v TE ys:: .own KT q TT x::(Rs++L)) X):bx F0 n E (nf KT TE TT v xs::L) X:=λF a w h0 hE hS=>by obtain⟨qs,hl,b⟩:=hS.manyOpen ek.raw hT;rw[oe hl] at b;obtain⟨h1,h2,h3⟩:=eO hi;have j:i.toNat<xs.length:=(we.1 h3).1;(have c:i.toNat<qs.length:=by omega);have hx:xs[i.toNat]=x:=(we.1 h3).2;(have f:∀x' q',m0 KT (λx:List τ=>x) TT (xs.set i.toNat x') (qs.set i.toNat q')=m0 KT (λx:List τ=>x) TT (xs.take i.toNat) (qs.take i.toNat)++.own KT q' TT x'::m0 KT (λx:List τ=>x) TT (xs.drop (i.toNat+1)) (qs.drop (i.toNat+1)):=λx' q'=>by unfold m0;rw[xS,xN j,xS,xN c];rw[List.zipWith_append (by simp;omega)];rfl);(have g:xs.set i.toNat x=xs:=by rw[←hx];simp);(have e:qs.set i.toNat qs[i.toNat]=qs:=by simp);have d:=f x qs[i.toNat];rw[g,e] at d;rw[d] at b;refine k qs[i.toNat] qs (m0 KT (λx:List τ=>x) TT (xs.take i.toNat) (qs.take i.toNat)++m0 KT (λx:List τ=>x) TT (xs.drop (i.toNat+1)) (qs.drop (i.toNat+1))) hl ?_ (λx' q' F w L' h=>?_) F a w h0 hE (b.perm ?_);unfold idx;rw[xN h1];simp[c];refine AD (qs:=qs.set i.toNat q') (by simp[hl]) ?_;rw[oe (by simp[hl]),f x' q'];refine h.perm (List.Perm.cons _ ?_);simp only[wM,xP];exact List.perm_middle.symm;refine List.Perm.cons _ ?_;simp only[wM,xP];exact List.perm_middle
end
end Go.Sim
namespace Go.Sim
open Go
section
variable {P:Program} {ops:Array Oper} {Q:Exit→Act→World→Prop} {rest:List Oper} {F0:Fz} {n:Nat} {E:List (Nat×SV)} {L:List bJ}
variable {d:Nat} {op:Op} {ty:TypeId} {pos:String} {aft:Array Edge} {s:SV}
end
end Go.Sim
namespace Go.Sim
open Go
section
variable {P:Program} {ops:Array Oper} {Q:Exit→Act→World→Prop} {rest:List Oper} {F0:Fz} {n:Nat} {E:List (Nat×SV)} {L:List bJ}
variable {d:Nat} {op:Op} {ty:TypeId} {pos:String} {aft:Array Edge} {s:SV}
end
end Go.Sim
namespace Go.Sim
open Go
theorem kr (h:a=b:=by kernel_rfl):a=b:=h
theorem kq {P:Program} {K:Kd α} (h1:(P.info? T).map (·.size)=some K.n:=by kernel_rfl) (h2:rE P T=some K.agg:=by kernel_rfl):KT P T K:=⟨h1,h2⟩
theorem uq {γ:Type} {fs:List (en γ)} {i:Nat} {f:en γ} {s1:γ→f.α→γ} (h1:fs[i]? =some f:=by exact rfl) (h2:∀x y,f.get (s1 x y)=y:=by exact λ_ _=>rfl) (h3:∀x y,pD x (s1 x y) fs i:=by exact λ_ _=>by simp[pD]):pE fs i f s1:=⟨h1,h2,h3⟩
class ZK {α:Type} (K:Kd α) (z:outParam α) where
 cs:List Value
 rd:∀F,K.rd F cs z
instance (k:IntKind):ZK (bB k) 0:=⟨[.int k 0],λ_=>rfl⟩
instance:ZK jg false:=⟨[.bool false],λ_=>rfl⟩
instance:ZK kG []:=⟨[.string ByteArray.empty],λ_=>⟨_,rfl,rfl⟩⟩
instance {α:Type} (K:Kd α):ZK (cI K) []:=⟨[.slice none 0 0],λ_=>⟨none,0,rfl,wy _,.inl rfl⟩⟩
instance {α β:Type} (K:Kd α) (V:Kd β):ZK (Fi K V) []:=⟨[.map none],λ_=> .inl ⟨rfl,rfl⟩⟩
instance:ZK dK (.slice none 0 0):=⟨[.slice none 0 0],λ_=>⟨rfl,rfl⟩⟩
instance {α:Type} (m:Nat) (K:Kd α) (z:α) [h:ZK K z]:ZK (bG m K) (List.replicate m z):=⟨(List.replicate m h.cs).flatten,λF=>⟨by simp,iH (h.rd F) m⟩⟩
class ZF {β:Type} (fs:List (en β)) (z:β) where
 cs:List Value
 rd:∀F,lk F fs cs z
instance {β:Type} (z:β):ZF [] z:=⟨[],λ_=>rfl⟩
instance {β γ:Type} (K:Kd γ) (g:β→γ) (fs:List (en β)) (z:β) [h:ZK K (g z)] [k:ZF fs z]:ZF (⟨K,g⟩::fs) z:=⟨h.cs++k.cs,λF=>⟨h.cs,k.cs,rfl,h.rd F,k.rd F⟩⟩
@[reducible] def zs {β:Type} {fs:List (en β)} {z:β} [h:ZF fs z]:ZK (h_ fs) z:=⟨h.cs,h.rd⟩
def ng (P:Program) (T:TypeId):Option (Nat×Nat×List Value):=(P.info? T).bind λi=>i.zero.map λv=>(i.size,i.bytes,v.cells.toList)
theorem iM {P:Program} {T:TypeId} {m b:Nat} {cs:List Value} (h:ng P T=some (m,b,cs)):∃ie zv,P.info? T=some ie∧ie.zero=some zv∧ie.size=m∧ie.bytes=b∧zv.cells.toList=cs:=by obtain⟨i,h1,h2⟩:=wZ.1 h;obtain⟨v,h3,h4⟩:=wN.1 h2;cases h4;exact⟨i,v,h1,h3,rfl,rfl,rfl⟩
theorem zq {α:Type} {P:Program} {T:TypeId} {K:Kd α} {z:α} [h:ZK K z] (e:(ng P T).map (·.2.2)=some h.cs:=by kernel_rfl):ZT P T K z:=by obtain⟨⟨m,b,ds⟩,h1,h2⟩:=wN.1 e;simp only at h2;subst h2;obtain⟨i,v,a1,a2,a3,a4,a5⟩:=iM h1;exact⟨v,by rw[a1];exact a2,λF=>a5▸h.rd F⟩
theorem C4 {α:Type} {P:Program} {T:TypeId} {K:Kd α} {z:α} [h:ZK K z] (e:(ng P T).map (λx=>(x.1,Nat.blt 0 x.1,x.2.2))=some (K.n,true,h.cs):=by kernel_rfl):ET P T K z:=by obtain⟨⟨m,b,ds⟩,h1,h2⟩:=wN.1 e;simp only[Prod.mk.injEq] at h2;obtain⟨rfl,h3,rfl⟩:=h2;obtain⟨i,v,a1,a2,a3,a4,a5⟩:=iM h1;exact⟨i,v,a1,a2,a3,by simpa[xr] using h3,λF=>a5▸h.rd F⟩
theorem aq {α:Type} {P:Program} {T:TypeId} {K:Kd α} {z:α} [h:ZK K z] {b:Nat} (e:(ng P T).map (λx=>(x,Nat.blt 0 x.1,Nat.ble x.2.1 4096))=some ((K.n,b,h.cs),true,true):=by kernel_rfl):AT P T K z b:=by obtain⟨⟨m,b,ds⟩,h1,h2⟩:=wN.1 e;simp only[Prod.mk.injEq] at h2;obtain⟨⟨rfl,rfl,rfl⟩,h3,h4⟩:=h2;obtain⟨i,v,a1,a2,a3,a4,a5⟩:=iM h1;exact⟨i,v,a1,a2,a3,a4,by simpa[xr] using h3,xo h4,λF=>a5▸h.rd F⟩
def C5 {β:Type}:Nat→List (en β)→List (Nat×Nat)|_,[]=>[]|o,f::fs=>(o,f.K.n)::C5 (o+f.K.n) fs
theorem qd:∀(fs:List (en β)) (o i:Nat) (f:en β),fs[i]? =some f→(C5 o fs)[i]? =some (o+eb fs i,f.K.n)|[],_,_,_,h=>by cases h|g::fs,o,0,f,h=>by cases h;rfl|g::fs,o,i+1,f,h=>by have:=qd fs (o+g.K.n) i f h;simp only[C5,List.getElem?_cons_succ,this,eb,zp]
def DW (P:Program) (T:TypeId):Option (List (Nat×Nat)):=match P.underlying T with|some (.struct ff)=>ff.toList.mapM (λf=>(P.info? f.type).map λi=>(f.offset,i.size))|_=>none
theorem bq {β:Type} {P:Program} {T:TypeId} {fs:List (en β)} {z:β} [h:ZF fs z] (e:((ng P T).map (·.2.2),DW P T)=(some h.cs,some (C5 0 fs)):=by kernel_rfl):BT P T fs z:=by simp only[Prod.mk.injEq] at e;obtain⟨e,e2⟩:=e;obtain⟨⟨m,b,ds⟩,h1,h2⟩:=wN.1 e;simp only at h2;subst h2;obtain⟨i,v,a1,a2,a3,a4,a5⟩:=iM h1;unfold DW at e2;split at e2;rename_i ff hu;refine⟨i,v,ff,_,a1,a2,hu,e2,λj f hj=>?_,λF=>a5▸h.rd F⟩;have:=qd fs 0 j f hj;simpa using this;cases e2
def D4 (P:Program) (T:TypeId):Option (Nat×Nat):=match P.underlying T with|some (.array m e)=>(P.info? e).map λi=>(m,i.size)|_=>none
theorem DO {α:Type} {P:Program} {T:TypeId} {m:Nat} {K:Kd α} {z:α} [h:ZK K z] (e:((ng P T).map (·.2.2),D4 P T)=(some (List.replicate m h.cs).flatten,some (m,K.n)):=by kernel_rfl):Dq P T m K (List.replicate m z):=by simp only[Prod.mk.injEq] at e;obtain⟨e,e2⟩:=e;obtain⟨⟨k,b,ds⟩,h1,h2⟩:=wN.1 e;simp only at h2;subst h2;obtain⟨i,v,a1,a2,a3,a4,a5⟩:=iM h1;unfold D4 at e2;split at e2;rename_i k e' hu;obtain⟨ie,b1,b2⟩:=wN.1 e2;simp only[Prod.mk.injEq] at b2;obtain⟨rfl,b2⟩:=b2;exact⟨i,v,e',ie,a1,a2,hu,b1,b2,by simp,λF=>by rw[a5];exact iH (h.rd F) _⟩;cases e2
theorem bc {i:Nat} {x x' y:β} {f:en β} (hf:fs[i]? =some f) (hX:ev E X=some s) (hr:eH s f.K (f.get x')) (r:tD E fs ps x' y) (hb:pD x x' fs i:=by simp[pD]):tD E fs ((i,X)::ps) x y:= .cons hf hX hr hb r
abbrev j1:=@Bu
abbrev j2:=@Bv
abbrev j3:=@Bw
abbrev j4:=@Bx
def D1 (E:List (Nat×SV)):List ResultVar→Option (List SV)|[]=>some []| .tmp u::l=>(match look E u,D1 E l with|some s,some ss=>some (s::ss)|_,_=>none)|_=>none
theorem og:∀{l:List ResultVar} {ss:List SV},D1 E l=some ss→o_ P E l ss|[],_,h=>by cases h;exact .nil| .tmp u::l,ss,h=>by simp only[D1] at h;split at h;rename_i s t h1 h2;cases h;exact .tm h1 (og h2);cases h| .cell _ _::_,_,h=>by cases h
section
variable {P:Program} {F0:Fz} {n:Nat} {E:List (Nat×SV)} {L:List bJ} {s:SV}
theorem rq {fn:Func} {l:List ResultVar} (hr:fn.results=l.toArray) (h:D1 E l=some ss) (he:gy ss=s) (hL:L=L'):bx F0 n E L (bodyPost P fn (λe w'=>∃G v,e= .returned v∧F0≤G∧St G w' L'∧s.ok G v) .ret):=Bl hr (og h) he hL
theorem rX {fn:Func} {l:List ResultVar} {ss:List SV} {C:Type} {s:C→SV} {L':C→List bJ} (y:C) (hr:fn.results=l.toArray) (h:D1 E l=some ss) (he:gy ss=s y) (hL:L=L' y):bx F0 n E L (bodyPost P fn (λe w'=>∃y G v,e= .returned v∧F0≤G∧St G w' (L' y)∧(s y).ok G v) .ret):=BQ y hr (og h) he hL
end
def DG (E:List (Nat×SV)) (k:IntKind):List (Nat×Operand)→List Int→Option (List Int)|[],xs=>some xs|(i,X)::ps,xs=>match ev E X,Nat.blt i xs.length with|some (.raw (.int k' y)),true=>if k'=k then DG E k ps (xs.set i y) else none|_,_=>none
theorem bI:∀{ps:List (Nat×Operand)} {xs ys:List Int},DG E k ps xs=some ys→eA E (bB k) ps xs ys|[],xs,ys,h=>by cases h;exact .nil _|(i,X)::ps,xs,ys,h=>by simp only[DG] at h;split at h;rename_i k' y h1 h2;split at h;rename_i hk;subst hk;exact .cons h2 h1 dG (bI h);cases h;cases h
end Go.Sim
namespace Go.Sim
open Go
theorem n_ (h:(ev E x,Nat.blt d n)=(some s,true)) (k:bx F0 n ((d,s)::E) L K):bx F0 n E L (wpList P ops (Exit.then K Q) [⟨some d,.assign x,ty,pos,aft,none⟩]):=a_ h (nt k)
theorem r_ (h:(ev E x,Nat.blt d n)=(some s,true)) (k:bx F0 n ((d,s)::E) L (R .ret)):bx F0 n E L (wpList P ops (Exit.then (Code.ret.wp P R) Q) [⟨some d,.assign x,ty,pos,aft,none⟩]):=a_ h (nt (rc k))
theorem t_ {y:Code} (h:(ev E x,Nat.blt d n)=(some s,true)) (k:bx F0 n ((d,s)::E) L (wpList P (⟨some d,.move x,ty,pos,aft,none⟩::l).toArray (Exit.then (y.wp P Q) Q) l)):bx F0 n E L ((Code.seq (Code.region iz (⟨some d,.move x,ty,pos,aft,none⟩::l).toArray false) y).wp P Q):=sr (m_ h k)
theorem u_ {y:Code} (h:(ev E x,Nat.blt d n)=(some s,true)) (k:bx F0 n ((d,s)::E) L (wpList P (⟨some d,.assign x,ty,pos,aft,none⟩::l).toArray (Exit.then (y.wp P Q) Q) l)):bx F0 n E L ((Code.seq (Code.region iz (⟨some d,.assign x,ty,pos,aft,none⟩::l).toArray false) y).wp P Q):=sr (a_ h k)
theorem v_ {y:Code} (h:(ev E x,Nat.blt d n)=(some s,true)) (k:bx F0 n ((d,s)::E) L (y.wp P Q)):bx F0 n E L ((Code.seq (Code.region iz [⟨some d,.assign x,ty,pos,aft,none⟩].toArray false) y).wp P Q):=sr (a_ h (nt k))
theorem e_ (k:bx F0 n E L M):bx F0 n E L (Exit.then K (Exit.inBlock iz (Exit.then M Q)) (.exit iz)):=te (bh (tn k))
theorem c_ {c y:Code} (k:bx F0 n E L (c.wp P (Exit.inBlock iz (Exit.then (y.wp P R) R)))):bx F0 n E L (Code.skip.wp P (Exit.then ((Code.seq (Code.block iz c) y).wp P R) Q)):=ct (sq (bk k))
theorem q_ {x y:Code} (k:bx F0 n E L (x.wp P (Exit.then (y.wp P R) R))):bx F0 n E L (wpList P ops (Exit.then ((Code.seq x y).wp P R) Q) []):=nt (sq k)
theorem s_ {x y:Code} (k:bx F0 n E L (wpList P l.toArray (Exit.then (x.wp P (Exit.then (y.wp P Q) Q)) (Exit.then (y.wp P Q) Q)) l)):bx F0 n E L ((Code.seq (Code.seq (Code.region iz l.toArray false) x) y).wp P Q):=sq (sr k)
theorem d_ (h:(ev E x,Nat.blt d n,ev ((d,s)::E) y,Nat.blt e n)=(some s,true,some r,true)) (k:bx F0 n ((e,r)::(d,s)::E) L (wpList P ops Q l)):bx F0 n E L (wpList P ops Q (⟨some d,.assign x,ty,pos,aft,none⟩::⟨some e,.assign y,tz,poz,afz,none⟩::l)):=by simp only[Prod.mk.injEq] at h;exact a_ (by rw[h.1,h.2.1]) (a_ (by rw[h.2.2.1,h.2.2.2]) k)
theorem w_ (h:(ev E x,Nat.blt d n,ev ((d,s)::E) y,Nat.blt e n)=(some s,true,some r,true)) (k:bx F0 n ((e,r)::(d,s)::E) L (wpList P ops Q l)):bx F0 n E L (wpList P ops Q (⟨some d,.move x,ty,pos,aft,none⟩::⟨some e,.move y,tz,poz,afz,none⟩::l)):=by simp only[Prod.mk.injEq] at h;exact m_ (by rw[h.1,h.2.1]) (m_ (by rw[h.2.2.1,h.2.2.2]) k)
theorem l_ (h:(ev E x,Nat.blt d n,ev ((d,s)::E) X,ev ((d,s)::E) Y,uB b i p q,Nat.blt e n)=(some s,true,some (.raw (.int i p)),some (.raw (.int i q)),some v,true)) (h2:(ev ((e,.raw v)::(d,s)::E) z,Nat.blt f n)=(some r,true)) (k:bx F0 n ((f,r)::(e,.raw v)::(d,s)::E) L (R .normal)):bx F0 n E L (Exit.inBlock iz (Exit.then ((Code.region ie [⟨some d,.move x,ty,pos,aft,none⟩,⟨some e,.binOp b t X Y u,tz,poz,afz,none⟩,⟨some f,.assign z,tw,pow,afw,none⟩].toArray false).wp P R) Q) .normal):=Bh (tn (rg (mb h (a_ h2 (nl k)))))
theorem k_ (h:(ev E X,ev E Y,uB b i p q,Nat.blt d n)=(some (.raw (.int i p)),some (.raw (.int i q)),some v,true)) (h2:(ev ((d,.raw v)::E) z,Nat.blt f n)=(some r,true)) (k:bx F0 n ((f,r)::(d,.raw v)::E) L (R .normal)):bx F0 n E L (Exit.inBlock iz (Exit.then ((Code.region ie [⟨some d,.binOp b t X Y u,tz,poz,afz,none⟩,⟨some f,.move z,tw,pow,afw,none⟩].toArray false).wp P R) Q) .normal):=Bh (tn (rg (b_ h (m_ h2 (nl k)))))
end Go.Sim
namespace Go.Sim
open Go
def uC (r:bJ):Prop:=∀F G h,r.holds F h→r.holds G h
theorem uC.own {α:Type} {K:Kd α} (hK:ek K) {v:Value} {e:TypeId} {xs:List α}:uC (.own K v e xs):=λ_ _ _ h=>kh hK h
theorem uC.any {r:cD→Prop}:uC (.any r):=λ_ _ _ h=>h
def ud {β:Type}:List (en β)→Prop
 |[]=>True
 |f::fs=>ek f.K∧ud fs
theorem qe {β:Type} {F G:Fz}:∀{fs:List (en β)} {cs:List Value} {x:β},ud fs→lk F fs cs x→lk G fs cs x
 |[],_,_,_,h=>h
 |f::fs,cs,x,hf,⟨c,d,e,h,r⟩=>⟨c,d,e,hf.1 _ _ _ _ h,qe hf.2 r⟩
theorem ek.st {β:Type} {fs:List (en β)} (h:ud fs):ek (h_ fs):=λ_ _ _ _ hr=>qe h hr
theorem ek.bool:ek jg:=λ_ _ _ _ h=>h
theorem tE.tup:∀{l:List SV},(∀s∈l,tE s)→tE (.tup l):=λ{l} hl F G u h=>by
 simp only[SV.ok] at*
 obtain⟨vs,e,h⟩:=h
 refine⟨vs,e,?_⟩
 clear e
 induction l generalizing vs with
 |nil=>cases vs<;>simp only[SV.oks] at*
 |cons s l ih=>
  cases vs with
  |nil=>simp only[SV.oks] at h
  |cons v vs=>
   simp only[SV.oks] at*
   exact⟨hl s (by simp) F G v h.1,ih (λs hs=>hl s (by simp[hs])) vs h.2⟩
def rr (G:Fz) (r:bJ):Prop:=∃h,r.holds G h∧∀b o,h b=some o→G.blk b=some o
theorem rr.own {α:Type} {K:Kd α} {v:Value} {e:TypeId} {xs:List α} {G:Fz} (h:rr G (.own K v e xs)):(cI K).val G v xs:=by
 obtain⟨h,hh,hon⟩:=h
 rcases hh with⟨rfl,rfl,_⟩|⟨g,cap,cur,rfl,rfl,h3,h4,h5,h6⟩
 · exact⟨[.slice none 0 0],⟨none,0,rfl,wy _,.inl rfl⟩,rfl⟩
 · refine⟨[.slice (some ⟨g,0,none⟩) xs.length cap],⟨_,cap,rfl,h3,.inr ⟨⟨g,0,none⟩,cur,e,(0,0),rfl,rfl,hon g _ (zN _ _),?_,by simpa using h6⟩⟩,rfl⟩
   have:xs.length*K.n≤cap*K.n:=wh _ h3
   simp only;omega
def EO:List bJ→Prop
 |[]=>True
 |r::rs=>uC r∧EO rs
theorem EO.all:∀{rs:List bJ},EO rs→∀r∈rs,uC r
 |[],_,r,h=>by cases h
 |q::rs,hf,r,h=>by
  rcases yc.1 h with rfl|h
  · exact hf.1
  · exact EO.all hf.2 r h
def oh (G:Fz):List bJ→Prop
 |[]=>True
 |r::rs=>rr G r∧oh G rs
theorem oh.of {G:Fz}:∀{rs:List bJ},(∀r∈rs,rr G r)→oh G rs
 |[],_=>trivial
 |r::rs,h=>⟨h r (by simp),oh.of λq hq=>h q (by simp[hq])⟩
def Df:List SV→Prop
 |[]=>True
 |s::l=>tE s∧Df l
theorem Df.all:∀{l:List SV},Df l→∀s∈l,tE s
 |[],_,r,h=>by cases h
 |q::l,hf,r,h=>by
  rcases yc.1 h with rfl|h
  · exact hf.1
  · exact Df.all hf.2 r h
end Go.Sim
namespace Go.Sim
open Go
section
variable {P:Program} {F0:Fz} {n:Nat} {E:List (Nat×SV)} {L:List bJ} {X:Act→World→Prop}
end
section
variable {β γ τ:Type} {KB:Kd β} {KR:Kd γ} {KT:Kd τ} {mk:β→Value→γ} {tg:β→List τ} {TE TT:TypeId} {v:Value}
variable {F0:Fz} {n:Nat} {E:List (Nat×SV)} {L:List bJ} {X:Act→World→Prop}
end
end Go.Sim
namespace Go.Sim
open Go
section
variable {P:Program} {ops:Array Oper} {Q:Exit→Act→World→Prop} {rest:List Oper} {F0:Fz} {n:Nat} {E:List (Nat×SV)} {L:List bJ} {d:Nat} {ty:TypeId} {pos:String} {aft:Array Edge}
def f8 (m:Nat):ByteArray:=⟨(List.replicate m (0:UInt8)).toArray⟩
theorem iw (m:Nat):(f8 m).size=m:=by simp[f8,ByteArray.size]
theorem mw (m:Nat):(f8 m).extract 0 m=f8 m:=by
 conv=>lhs;rw[←iw m]
 rw[iw]
 apply ByteArray.ext
 simp[f8]
theorem oi (m:Nat) {z:Array Value} (hz:z=#[.int .u8 0]):(f8 m).data.map (λb=>Value.int .u8 b.toNat)=Builtin.zeroCells z m:=by
 subst hz
 apply Array.ext'
 simp only[f8,Builtin.zeroCells]
 apply yd
 · simp
 · intro i h1 h2;simp[Nat.mod_one]
theorem qf {t i u e:TypeId} {ie:TypeInfo} {z:Value} (ht:P.underlying t=some (.slice e)) (hi:P.underlying i=some (.int .i64)) (hu:P.underlying u=some .string) (h1:P.info? e=some ie) (h2:ie.zero=some z) (hz:z.cells=#[.int .u8 0]) (hs:ie.size=1) (hb:ie.bytes=1)
   {w:World} {base:Option Addr} {sLen sCap m:Nat} (hm:m≤140737488355328) (h63:sLen+m≤9223372036854775807) (hfit:sCap<sLen+m→Builtin.nextslicecap (sLen+m) sCap≤281474976710656):
   (Builtin.append_ #[t,i] ty #[.slice base sLen sCap,.int .i64 (m:Int)]).run P w=(Builtin.append_ #[t,u] ty #[.slice base sLen sCap,.string (f8 m)]).run P w:=by
 have hw:IntKind.wrap .i64 (m:Int)=(m:Int):=by
   simp[IntKind.wrap,IntKind.signed,IntKind.bits];omega
 have hc:=oi m hz
 have hsz:(Builtin.zeroCells z.cells m).size=m:=by rw[←hc];simp[f8]
 have ht2:List.take m (Builtin.zeroCells z.cells m).toList=(Builtin.zeroCells z.cells m).toList:=wn (by rw[xg,hsz];exact wy _)
 have he2:(Builtin.zeroCells z.cells m).extract 0 m=Builtin.zeroCells z.cells m:=Array.extract_eq_self_of_le (Nat.le_of_eq hsz)
 have h0:¬((m:Int)<0):=by omega
 have h48:¬(281474976710656<(m:Int)):=by omega
 by_cases hr:sLen+m≤sCap
 · simp[Builtin.append_,wo ht,wo hi,wo hu,sizeOf,typeInfo,h1,hs,hb,hw,h0,h48,asInt,asIntOf,Builtin.lenOf,iw,hr,zeroValue,h2,Builtin.firstCells,mw,hc]
   by_cases hm0:m=0
   · subst hm0;simp[Builtin.zeroCells,storeCells]
   · simp[hm0,hs,ht2,he2]
 · have h9:=hfit (by omega)
   have h48':¬(281474976710656<Builtin.nextslicecap (sLen+m) sCap):=by omega
   have h63':¬(9223372036854775807<((sLen:Int)+(m:Int))):=by omega
   simp[Builtin.append_,wo ht,wo hi,wo hu,sizeOf,typeInfo,h1,hs,hb,hw,h0,h48,asInt,asIntOf,Builtin.lenOf,iw,hr,zeroValue,h2,Builtin.firstCells,mw,hc,h48',h63']
   by_cases hm0:m=0
   · subst hm0;simp[Builtin.zeroCells]
   · simp[hm0,hs,ht2,he2]
theorem qQ {F:Fz} (m:Nat):kG.val F (.string (f8 m)) (List.replicate m 0):=by
 refine⟨[.string (f8 m)],⟨f8 m,rfl,?_⟩,rfl⟩
 simp[f8]
theorem Ba {t i u e:TypeId} {S V:Operand} {v:Value} {xs zs:List Int} {m:Nat} (hz:Go.Sim.app xs (List.replicate m 0)=some zs) (hT:P.underlying t=some (.slice e)) (hi:P.underlying i=some (.int .i64)) (hu:P.underlying u=some .string) (he:AT P e (bB .u8) 0 1)
  (hS:ev E S=some (.raw v)) (hV:ev E V=some (.raw (.int .i64 (m:Int)))) (hd:Nat.blt d n=true) (k:∀v',bx F0 n ((d,.raw v')::E) (.own (bB .u8) v' e zs::L) (wpList P ops Q rest)):
  bx F0 n E (.own (bB .u8) v e xs::L) (wpList P ops Q (⟨some d,.call ⟨.builtin .append,#[S,V],#[t,i]⟩,ty,pos,aft,none⟩::rest)):=
 zQ rfl λF a w h0 hE hSt=>by
  obtain⟨hroom,rfl⟩:=jl hz
  obtain⟨news,e1,e2,e3⟩:=nB.str (P:=P) (w:=w) (qQ (F:=F) m)
  have hsu:tB P u=true:=by simp[tB,hu]
  obtain⟨v',w',r1,hS'⟩:=Bj (P:=P) (ty:=ty) hroom hT hsu he hSt e1 e2 e3
  have hr:(Builtin.append_ #[t,i] ty #[v,.int .i64 (m:Int)]).run P w= .ok v' w':=by
   rw[←r1]
   obtain⟨ie,zv,h1,h2,h3,h4,h5,h6,h7⟩:=he.out
   obtain⟨f0,hh,_,_⟩:=hSt
   have hzc:zv.cells=#[.int .u8 0]:=by
     apply Array.ext';exact h7 F
   simp only[xX] at hroom
   have hs1:ie.size=1:=h3
   rcases hh with⟨rfl,rfl,rfl⟩|⟨g,cap,cur,rfl,rfl,a3,a4,a5,a6⟩
   · refine qf hT hi hu h1 h2 hzc hs1 (by omega) (by unfold c7 at hroom;omega) (by unfold c7 at hroom;omega) λhlt=>?_
     have:=zm (bytes:=1) hlt (by unfold c7 at hroom;simp only[xc] at*;omega)
     simp only[xc] at*;omega
   · refine qf hT hi hu h1 h2 hzc hs1 (by omega) (by unfold c7 at hroom;omega) (by unfold c7 at hroom;omega) λhlt=>?_
     have:=zm (bytes:=1) hlt (by unfold c7 at hroom;omega)
     omega
  unfold Oper.wp
  simp only[execOp,resolve,invoke,builtin,wv,wF,wm,xh,wS,x7,hE.raw hS,hE.raw hV,hr,Oper.upon]
  exact k v' F _ _ h0 (hE.put hd (by simp only[SV.ok])) hS'
theorem qg {α:Type} {ys:List α} {i:Int} {q:α} (hi:idx ys i=some q):List.set ys i.toNat q=ys:=by
 obtain⟨h1,h2,h3⟩:=eO hi
 apply yv
 intro j
 rw[List.getElem?_set]
 split
 · next h=>subst h;rw[xN (we.1 h3).1];exact h3.symm
 · rfl
variable {τ:Type} {KT:Kd τ} {TE TT:TypeId}
theorem A4 {X:Act→World→Prop} {v q:Value} {ys:List Value} {xs:List (List τ)} {x':List τ} {i:Int} {Rs:List bJ} (hi:idx ys i=some q)
  (hb:∀x' q' F w L',St F w (.own dK v TE (List.set ys i.toNat q'):: .own KT q' TT x'::(Rs++L'))→St F w (nf KT TE TT v (List.set xs i.toNat x')::L'))
  (k:bx F0 n E (nf KT TE TT v (List.set xs i.toNat x')::L) X):bx F0 n E (.own dK v TE ys:: .own KT q TT x'::(Rs++L)) X:=λF a w h0 hE hS=>
 k F a w h0 hE (hb x' q F w L (by rw[qg hi];exact hS))
theorem Bq {X:Act→World→Prop} {v q:Value} {ys:List Value} {xs:List (List τ)} {x:List τ} {i:Int} {Rs:List bJ} (hx:idx xs i=some x) (hi:idx ys i=some q)
  (hb:∀x' q' F w L',St F w (.own dK v TE (List.set ys i.toNat q'):: .own KT q' TT x'::(Rs++L'))→St F w (nf KT TE TT v (List.set xs i.toNat x')::L'))
  (k:bx F0 n E (nf KT TE TT v xs::L) X):bx F0 n E (.own dK v TE ys:: .own KT q TT x::(Rs++L)) X:=
 A4 hi hb (by rw[qg hx];exact k)
end
end Go.Sim
