import Derived.Test.YtobbmodjdkcdcaaGreatDoorSimC
import Derived.Scope
import Derived.Lib.ConvBytes
import Derived.Laws.AppendOwn
set_option linter.all false
set_option autoImplicit true
set_option relaxedAutoImplicit true
set_option autoImplicit true
set_option relaxedAutoImplicit true
namespace Go.Sim
open Go
section
variable {P:Program} {Q:Exit→Act→World→Prop} {F0:Fz} {n:Nat} {E:List (Nat×SV)} {L:List i_}
theorem bx.scope {c:Code} (k:bx F0 n E L (c.wp P (Exit.noGoto Q))):bx F0 n E L ((Code.scope c).wp P Q):=λF a w h0 hE hS=>wp_scope_straight (k F a w h0 hE hS)
theorem Ov (k:bx F0 n E L (Q .ret)):bx F0 n E L (Exit.noGoto Q .ret):=k
theorem bx.label (k:bx F0 n E L (Q .normal)):bx F0 n E L ((Code.label l).wp P Q):=λF a w h0 hE hS=>wp_label (k F a w h0 hE hS)
end
def Ty (s:SV):Prop:=∀F G u,s.ok F u→s.ok G u
theorem Ty.raw:Ty (.raw v):=λF G u h=>by simp only[SV.ok] at*;exact h
theorem Ty.val (hK:Po K):Ty (.val K x):=λF G u h=>by simp only[SV.ok] at*;obtain⟨cs,a,b⟩:=h;exact⟨cs,hK _ _ _ _ a,b⟩
def DD {α:Type} (v:Value) (K:Kd α) (xs:List α):List SV→List SV→Prop|[],[]=>True|a::l,b::l'=>(a=b∨(a= .raw v∧b= .val (j_ K) xs))∧DD v K xs l l'|_,_=>False
theorem yb (hv:(j_ K).val F v xs):∀{l l':List SV} {vs:List Value},DD v K xs l l'→SV.oks F vs l→SV.oks F vs l'|[],[],vs,_,h=>h|a::l,b::l',[],_,h=>by simp only[SV.oks] at h|a::l,b::l',u::vs,hl,h=>by simp only[SV.oks] at h⊢;obtain⟨h1,h2⟩:=hl;refine⟨?_,yb hv h2 h.2⟩;rcases h1 with rfl|⟨rfl,rfl⟩;exact h.1;have:=h.1;simp only[SV.ok] at this⊢;subst this;exact hv|[],_::_,_,hl,_=>hl.elim|_::_,[],_,hl,_=>hl.elim
theorem yc {K:Kd α} {xs:List α} {F:Fz} (a:Q5 F h) (hh:(i_.own K v e xs).holds (F.add h) h):(j_ K).val (F.add h) v xs:=by rcases hh with⟨rfl,rfl,_⟩|⟨g,cap,cur,rfl,rfl,h3,h4,h5,h6⟩;exact⟨[.slice none 0 0],⟨none,0,rfl,HK _,.inl rfl⟩,rfl⟩;refine⟨[.slice (some ⟨g,0,none⟩) xs.length cap],⟨_,cap,rfl,h3,.inr ⟨⟨g,0,none⟩,cur,e,(0,0),rfl,rfl,?_,?_,by simpa using h6⟩⟩,rfl⟩;have hg:F.blk g=none:=a g (by rw[Lq];simp);simp only[Fz.add,hg];exact Lq _ _;have:xs.length*K.n≤cap*K.n:=Hw _ h3;simp only;omega
def Fz.but (G F:Fz) (h:A_) (a:F≤G) (c:Q5 F h):Fz:={G with blk:=λb=>match h b with|none=>G.blk b|some _=>none,glob:=⟨λg k xs e=>by obtain⟨T,fr,q⟩:=F.glob.on g k xs e;(have h1:h g=none:=by cases hh:h g with|none=>rfl|some o=>have:=c g (by rw[hh];simp);rw[this] at q;cases q);exact⟨T,fr,by simp only[h1];exact a.blk _ _ q⟩⟩}
theorem uT {F G:Fz} (hr:(i_.own K v e xs).holds F h) (c:Q5 F h) (hg:F.add h≤G):∃B,F≤B∧(i_.own K v e xs).holds B h∧Q5 B h∧B.add h=G:=by have a:F≤G:=Mk (F.le_add h) hg;have d:F≤G.but F h a c:=⟨λb o hb=>by(have f:h b=none:=by cases hh:h b with|none=>rfl|some q=>have:=c b (by rw[hh];simp);rw[this] at hb;cases hb);simp only[Fz.but,f];exact a.blk _ _ hb,a.os,a.tape,a.output⟩;refine⟨G.but F h a c,d,i_.mono d hr,λb hb=>?_,?_⟩;(cases hh:h b with|none=>exact absurd hh hb|some q=>simp only[Fz.but,hh]);cases G with|mk blk os tape i g=>simp only[Fz.but,Fz.add,Fz.mk.injEq,KD];funext b;cases hh:h b with|none=>simp only[];cases blk b<;>rfl|some q=>simp only[];(have:(F.add h).blk b=some q:=by have hF:=c b (by rw[hh];simp);simp only[Fz.add,hF];exact hh);exact(hg.blk _ _ this).symm
theorem MI {L:List i_} (ho:∀L,Ok P f l' L s L) (hl:DD v K xs l l') (hf:Ty s):Ok P f l (.own K v e xs::L) s (.own K v e xs::L):=λF w vs c hS=>by obtain⟨h,hr,a,d⟩:=hS;have b:F≤F.add h:=F.le_add h;have h1:SV.oks (F.add h) vs l':=yb (yc a (i_.mono b hr)) hl (Mw b c);have h2:St (F.add h) w (L.map (i_.fix F)):=(P_.fix F (F.add h)).1 d;refine(ho _ (F.add h) w vs h1 h2).mono λe' w' ⟨G,u,he,hg,g,i⟩=>?_;obtain⟨B,b1,b2,b3,b4⟩:=uT hr a hg;refine⟨B,u,he,b1,⟨h,b2,b3,?_⟩,hf _ _ _ i⟩;rw[b4];exact P_.mono b1 ((P_.fix F G).2 g)
theorem NT {P:Program} {f:FuncId} {α:Type} {K:Kd α} {v:Value} {e:TypeId} {xs:List α} {l l':List SV} {C:Type} {s:C→SV} {r:C→i_} {L:List i_} (ho:∀L,To P f l' L s (λy=>r y::L)) (hl:DD v K xs l l') (hf:∀y,Ty (s y)) (hq:∀y F G h,(r y).holds F h→(r y).holds G h):To P f l (.own K v e xs::L) s (λy=> .own K v e xs::r y::L):=λF w vs c hS=>by obtain⟨h,hr,a,d⟩:=hS;have b:F≤F.add h:=F.le_add h;have h1:SV.oks (F.add h) vs l':=yb (yc a (i_.mono b hr)) hl (Mw b c);have h2:St (F.add h) w (L.map (i_.fix F)):=(P_.fix F (F.add h)).1 d;refine(ho _ (F.add h) w vs h1 h2).mono λe' w' ⟨y,G,u,he,hg,hS',g⟩=>?_;obtain⟨B,b1,b2,b3,b4⟩:=uT hr a hg;obtain⟨k,k1,k2,k3⟩:=hS';refine⟨y,B,u,he,b1,⟨h,b2,b3,?_⟩,hf _ _ _ _ g⟩;rw[b4];exact⟨k,hq y _ _ _ k1,k2,P_.mono b1 ((P_.fix F G).2 k3)⟩
theorem Cj {K:Kd α}:∀{xs:List α} {cs:List Value} {h:Nat},cb K F (cs.take (xs.length*K.n)) xs→h≤xs.length→cb K F (cs.take (h*K.n)) (xs.take h)|xs,cs,0,_,_=>by rw[Lb,JE,JE];exact rfl|[],cs,h+1,_,hh=>by simp at hh|x::xs,cs,h+1,hr,hh=>by obtain⟨c,d,e,a,b⟩:=hr;have hc:=K.len a;(have e1:cs.take ((h+1)*K.n)=c++d.take (h*K.n):=by have h2:(h+1)*K.n≤(x::xs).length*K.n:=Hw _ hh;(have h3:cs.take ((h+1)*K.n)=(cs.take ((x::xs).length*K.n)).take ((h+1)*K.n):=by rw[JF,Ij h2]);rw[h3,e,List.take_append,hc,Ib];(have h4:h*K.n+K.n - K.n=h*K.n:=by omega);rw[h4,HD (by omega)]);(have h5:d=d.take (xs.length*K.n):=by have h6:=congrArg List.length e;rw[Hu,HN,hc,HL,Ib] at h6;rw[HD (by omega)]);rw[e1];exact⟨c,_,rfl,a,Cj (by rw[←h5];exact b) (by simpa using hh)⟩
theorem Nm {K:Kd α} {xs:List α} (hh:h≤xs.length) (k:bx F0 n E (.own K (RT v 0 h K.n) e (xs.take h)::L) X):bx F0 n E (.own K v e xs::L) X:=λF a w h0 hE hS=>k F a w h0 hE (hS.map λf hf=>by rcases hf with⟨rfl,rfl,rfl⟩|⟨g,cap,cur,rfl,rfl,h3,h4,h5,h6⟩;(have:h=0:=by simpa using hh);subst this;exact .inl ⟨rfl,rfl,rfl⟩;(have hl:(xs.take h).length=h:=by rw[HN,Ij hh]);refine .inr ⟨g,cap,cur,?_,rfl,by omega,h4,h5,by rw[hl];exact Cj h6 hh⟩;rw[hl];unfold RT;simp only[Kf];split<;>simp[Addr.add])
theorem NK {L:List i_}
      (ho:∀L,Pd P n ((t,.val (j_ K) xs)::E) L ⟨some d,op,ty,pos,aft,none⟩ s) (ht:look E t=some (.raw v)) (hf:Ty s) (hd:Nat.blt d n=true)
  (k:bx F0 n ((d,s)::E) (.own K v e xs::L) (wpList P ops Q rest)):bx F0 n E (.own K v e xs::L) (wpList P ops Q (⟨some d,op,ty,pos,aft,none⟩::rest)):=
 LH rfl λF a w h0 hE hS=>by
  have hS0:=hS
  obtain⟨h,hr,hap,hs'⟩:=hS
  have hle:F≤F.add h:=F.le_add h
  have hval:=yc hap (i_.mono hle hr)
  have h2:St (F.add h) w (L.map (i_.fix F)):=(P_.fix F (F.add h)).1 hs'
  have hE':Env (F.add h) a n ((t,.val (j_ K) xs)::E):=⟨hE.defers,hE.size,λu r hl=>by
   rw[cV] at hl;split at hl
   · rename_i hk;subst hk;cases hl
     obtain⟨v',h1,h3⟩:=hE.at_ t _ ht
     simp only[SV.ok] at h3;subst h3
     exact⟨_,h1,by simp only[SV.ok];exact hval⟩
   · exact(hE.mono hle).at_ u r hl⟩
  obtain⟨u,hu,this⟩:=ho (L.map (i_.fix F)) (F.add h) a hE'
  have this:=this w ⟨F.add h,MD _,h2⟩
  have hu':=hf _ F _ hu
  unfold Oper.quietAt at this
  unfold Oper.wp
  generalize (execOp a.eval (⟨some d,op,ty,pos,aft,none⟩:Oper)).run P w=r at this
  cases r with
  |halt x w'=>exact this.elim
  |ok nx w'=>
   cases nx<;>simp only[Oper.quietUpon] at this<;>simp only[Oper.upon]
   case value u=>obtain⟨rfl,rfl⟩:=this;exact k _ _ _ h0 (hE.put hd hu') hS0
   case skip=>obtain⟨rfl,rfl⟩:=this;exact k _ _ _ h0 (hE.put hd hu') hS0
   case enter f args=>
     obtain⟨rfl,hc⟩:=this
     exact hc.mono λe w'' ⟨he,G,hg,hw⟩=>by
      subst he
      obtain⟨B,b1,b2,b3,b4⟩:=uT hr hap hg
      exact k B _ _ (Mk h0 b1) ((hE.mono b1).put hd (Ml b1 hu')) ⟨h,b2,b3,by rw[b4];exact P_.mono b1 ((P_.fix F G).2 hw)⟩
end Go.Sim
namespace Go.Sim
open Go
theorem sb {E':List (Nat×SV)} (h:E'.map (λp=>look E p.1)=E'.map (λp=>some p.2)):∀t v,look E' t=some v→look E t=some v:=by induction E' with|nil=>exact lu E|cons p E' ih=>obtain⟨k,u⟩:=p;simp only[HX,List.cons.injEq] at h;exact aR h.1 (ih h.2)
def yd:Nat→List i_→List i_→List i_|0,_,T=>T|k+1,r::l,T=>r::yd k l T|_+1,[],T=>T
def DE:Nat→List i_→List i_|0,l=>l|k+1,_::l=>DE k l|_+1,[]=>[]
theorem sR:∀(k:Nat) (l:List i_),yd k l (DE k l)=l|0,_=>rfl|k+1,r::l=>by simp only[yd,DE,sR k l]|_+1,[]=>rfl
theorem ye:∀(k:Nat) (l:List i_) (r:i_) (T:List i_),(r::yd k l T).Perm (yd k l (r::T))|0,_,_,_=> .refl _|k+1,q::l,r,T=>(List.Perm.swap _ _ _).trans (.cons _ (ye k l r T))|_+1,[],_,_=> .refl _
section
variable {P:Program} {ops:Array Oper} {Q:Exit→Act→World→Prop} {rest:List Oper} {F0:Fz} {n:Nat} {E:List (Nat×SV)} {L:List i_}
variable {D:List Nat} {d:Nat} {op:Op} {ty:TypeId} {pos:String} {aft:Array Edge} {s:SV} {Lf:List i_→List i_} {tab:List Rz}
def FT (G:Fz) (L:List i_) (d:Nat) (s:SV):Act→World→Prop:=λa w=>∃(H:Fz) (_:Value),G≤H∧(∃u,a.tmps[d]? =some u∧s.ok H u)∧St H w L∧a.defers=[]
def Q_ (P:Program) (n:Nat) (Lf:List i_→List i_) (a:Array Oper) (F0:Fz) (K:List (Nat×SV)→Prop):List (List Nat)→List Oper→List (Nat×SV)→Prop|us::p,o::l,E=>∃d s,o.dst=some d∧(∀G T,F0≤G→bx G n (iN us E) (Lf T) (wpList P a (Exit.then (FT G (Lf T) d s) QF) [o]))∧Q_ P n Lf a F0 K p l ((d,s)::E)|[],[],E=>K E|_,_,_=>False
theorem FU (hk:∀E,K E→K' E):∀{its:List QU} {p:List (List Nat)} {l:List Oper} {E:List (Nat×SV)} {j:Nat},Qd P n tab Lf a F0 bs K j its p l E→Qd P n tab Lf a F0 bs K' j its p l E|[],[],[],_,_,h=>hk _ h|_::_,_::_,_::_,_,_,h=>⟨h.1,FU hk h.2⟩|[],_::_,_,_,_,h=>by simp[Qd] at h|[],[],_::_,_,_,h=>by simp[Qd] at h|_::_,[],_,_,_,h=>by simp[Qd] at h|_::_,_::_,[],_,_,h=>by simp[Qd] at h
def Wi (l:List SV):List QU:=l.map λs=>⟨L_ s,[],[],[]⟩
theorem FV:∀{p:List (List Nat)} {l:List Oper} {E:List (Nat×SV)},Q_ P n Lf a F0 K p l E→∃vs:List SV,∀G,F0≤G→∀bs j,Qd P n [] Lf a G bs K j (Wi vs) p l E|[],[],E,h=>⟨[],λ_ _ _ _=>h⟩|us::p,o::l,E,h=>by obtain⟨d,s,hd,h1,h2⟩:=h;obtain⟨vs,hv⟩:=FV h2;refine⟨s::vs,λG hG bs j=>⟨λR hR G' T b=>?_,?_⟩⟩;simp only[ml,Iv] at hR;subst hR;rw[hd];exact h1 G' T (Mk hG b);rw[hd];exact hv G hG bs (j+1)|[],_::_,_,h=>h.elim|_::_,[],_,h=>h.elim
theorem Vq.v (h:∀G T,F0≤G→bx G n (iN us E) (Lf T) (wpList P a (Exit.then (FT G (Lf T) d s) QF) [⟨some d,op,ty,pos,aft,g⟩])) (k:Q_ P n Lf a F0 K p l ((d,s)::E)):Q_ P n Lf a F0 K (us::p) (⟨some d,op,ty,pos,aft,g⟩::l) E:=⟨d,s,rfl,h,k⟩
def Lw:=@Vq.v
theorem Ll (hd:look E d=some s):bx F0 n E L (wpList P b (Exit.then (FT F0 L d s) QF) []):=λF a w h0 hE hS=>⟨F,undef,h0,hE.at_ d _ hd,hS,hE.defers⟩
theorem vo (h:∀L,Pd P n (iN us E) L ⟨some d,op,ty,pos,aft,none⟩ s) (hd:Nat.blt d n=true) (k:Q_ P n Lf a F0 K p l ((d,s)::E)):Q_ P n Lf a F0 K (us::p) (⟨some d,op,ty,pos,aft,none⟩::l) E:=Lw (λG T _=>L2 (h _) hd (Ll (by simp[look]))) k
theorem vm (h:ev (iN us E) x=some s) (hd:Nat.blt d n=true) (k:Q_ P n Lf a F0 K p l ((d,s)::E)):Q_ P n Lf a F0 K (us::p) (⟨some d,.move x,ty,pos,aft,none⟩::l) E:=vo (λ_=>Pd.move h) hd k
theorem vb (hX:ev (iN us E) X=some (.raw (.int i x))) (hY:ev (iN us E) Y=some (.raw (.int i y))) (hv:SM b i x y=some v) (hd:Nat.blt d n=true) (k:Q_ P n Lf a F0 K p l ((d,.raw v)::E)):Q_ P n Lf a F0 K (us::p) (⟨some d,.binOp b t X Y u,ty,pos,aft,none⟩::l) E:=vo (λ_=>NE hX hY hv) hd k
theorem vn (h:bx F0 n E L (oU P Q l D)):Q_ P n Lf a F0 (λE'=>bx F0 n E' L (oU P Q l D)) [] [] E:=h
theorem DF:∀(vs:List SV) (j:Nat),TC (Wi vs) j=[]|[],_=>rfl|s::vs,j=>by simp only[Wi,HX,TC,IX,HM];exact DF vs (j+1)
theorem uj:∀vs:List SV,ni (Wi vs)=[]|[]=>rfl|s::vs=>by have:=uj vs;simp only[ni,Wi,HX,Ia,HM] at*;exact this
theorem Ck (l:List Oper) (g:List Nat) (a:List QU) (hf:ni a=[]):∀(vs:List SV) (j:Nat),xT l g [] a (Wi vs) j=true|[],_=>rfl|s::vs,j=>by have ih:=Ck l g a hf vs (j+1);simp only[Wi,HX,xT] at ih⊢;rw[ih];simp[Wx,L_]
theorem N2 {l:List Oper} (g:List Nat) (p:List (List Nat)) (k:Nat) (hB:vZ l D g p=true) (hn:(pick l g).all (λo=>match o.dst with|some d=>Nat.blt d n|none=>true)=true) (h:Q_ P n (yd k L) l.toArray F0 (λE'=>bx F0 n E' L (oU P Q l (g++D))) p (pick l g) E):bx F0 n E L (oU P Q l D):=by obtain⟨vs,hv⟩:=FV h;(have e1:PM [] (Wi vs)=[]:=by simp only[PM,IX,HM];exact DF vs 0);refine LK (L0:=L) (L:=DE k L) g p (Wi vs) [] (yd k L) (ye k L) (sR k L) hB ?_ hn (λF hF bs=>?_);simp only[VH,e1,uj,Ck l g _ (uj vs) vs 0];rfl;rw[e1,uj];refine FU (λE' hk=>?_) (hv F hF bs 0);simp only[TP,HM,sR];exact LR hF hk
theorem O1 {x:Code} (e:R→List (Nat×SV)) (l:R→List i_) (hk:bx F0 n (e r) (l r) K) (h:∀K',(∀x,r=x→bx F0 n (e x) (l x) K')→bx F0 n E L (x.wp P (Exit.then K' Q))):bx F0 n E L (x.wp P (Exit.then K Q)):=h K λx hx=>hx▸hk
theorem lp [Fu] {S R C:Type} {step:S→Option (Qp S R)} {x0:S} {r:R} {c:Code} (d:Loop.run step x0=some r) (c0:C) (Es:S→C→List (Nat×SV)) (Ls:S→C→List i_) (hE:(Es x0 c0).map (λp=>look E p.1)=(Es x0 c0).map (λp=>some p.2)) (hL:L=Ls x0 c0) (b:∀x y o,step x=some o→(∀q,o= .done q→q=r)→bx F0 n (Es x y) (Ls x y) (c.wp P (Exit.then (λa w=>∃x' y' F,o= .next x'∧F0≤F∧Env F a n (Es x' y')∧St F w (Ls x' y')) Q))):bx F0 n E L ((Code.loop c).wp P Q):=bx.loop c0 Es Ls d (sb hE) hL b
theorem nx {S R C:Type} {o:Qp S R} {Es:S→C→List (Nat×SV)} {Ls:S→C→List i_} {x':S} (y':C) (ho:(some (Qp.next x'):Option (Qp S R))=some o) (hE:(Es x' y').map (λp=>look E p.1)=(Es x' y').map (λp=>some p.2)) (hL:L=Ls x' y'):bx F0 n E L (λa w=>∃x' y' F,o= .next x'∧F0≤F∧Env F a n (Es x' y')∧St F w (Ls x' y')):=bx.next x' y' ho (sb hE) hL
theorem wr {E':List (Nat×SV)} (k:bx F0 n E' L X) (hs:E'.map (λp=>look E p.1)=E'.map (λp=>some p.2)):bx F0 n E L X:=NW k (sb hs)
theorem z_ {fn:Func} {c:Code} {a:List SV} (m:Nat) (hf:P.funcs[f]? =some fn) (hb:fn.body=some c) (hn:fn.ntmps=m) (hl:Nat.ble a.length m=true) (k:∀F0,bx F0 m (T4 0 a) L (c.wp P (bodyPost P fn λe w'=>∃G v,e= .returned v∧F0≤G∧St G w' L'∧s.ok G v))):Ok P f a L s L':=Ok.intro m _ hf hb hn hl rfl k
end
abbrev sP:=@Oq
abbrev lP:=@Oo
abbrev rI:=@NU
abbrev ca:=@bx.call
abbrev it:=@Ob
abbrev al:=@Oy
abbrev fz:=@Od
abbrev Pj:=@NY
abbrev f1:=@Nr
abbrev f2:=@Ns
abbrev f3:=@Nt
abbrev f4:=@Nu
abbrev ap:=@bx.app
abbrev tV:=@Ol
abbrev bO:=@Of
abbrev bF:=@Oe
abbrev bX:=@Oc
abbrev pn:=@OE
abbrev p1:=@OD
abbrev pd:=@NQ
abbrev ph:=@NH
abbrev gV:=@N2
abbrev rs:=@Nh
abbrev pb (b:Nat):SV:= .raw (.pointer (some ⟨b,0,none⟩))
abbrev i64 (x:Int):SV:= .raw (.int .i64 x)
theorem bs {α β:Type} {x:Option α} {f:α→Option β} {r:β} {G:Prop} (h:x.bind f=some r) (k:∀a,x=some a→f a=some r→G):G:=let ⟨a,b,c⟩:=PH h;k a b c
theorem gs {c:Bool} {α:Type} {x:Option α} {r:α} {G:Prop} (h:(bif c then x else none)=some r) (k:c=true→x=some r→G):G:=let ⟨a,b⟩:=TQ h;k a b
section
variable {P:Program} {ops:Array Oper} {Q:Exit→Act→World→Prop} {rest:List Oper} {F0:Fz} {n:Nat} {E:List (Nat×SV)} {L:List i_}
variable {d e:Nat} {op:Op} {ty ty':TypeId} {pos pos':String} {aft aft':Array Edge} {s:SV}
theorem m_ (h:(ev E x,Nat.blt d n)=(some s,true)) (k:bx F0 n ((d,s)::E) L (wpList P b Q a)):bx F0 n E L (wpList P b Q (⟨some d,.move x,ty,pos,aft,none⟩::a)):=mv (Prod.mk.inj h).1 (Prod.mk.inj h).2 k
theorem a_ (h:(ev E x,Nat.blt d n)=(some s,true)) (k:bx F0 n ((d,s)::E) L (wpList P b Q a)):bx F0 n E L (wpList P b Q (⟨some d,.assign x,ty,pos,aft,none⟩::a)):=ag (Prod.mk.inj h).1 (Prod.mk.inj h).2 k
theorem b_ (h:(ev E X,ev E Y,SM b i x y,Nat.blt d n)=(some (.raw (.int i x)),some (.raw (.int i y)),some v,true)) (k:bx F0 n ((d,.raw v)::E) L (wpList P c Q a)):bx F0 n E L (wpList P c Q (⟨some d,.binOp b t X Y u,ty,pos,aft,none⟩::a)):=by simp only[Prod.mk.injEq] at h;exact bn h.1 h.2.1 h.2.2.1 h.2.2.2 k
theorem mb (h:(ev E x,Nat.blt d n,ev ((d,s)::E) X,ev ((d,s)::E) Y,SM b i p q,Nat.blt e n)=(some s,true,some (.raw (.int i p)),some (.raw (.int i q)),some v,true)) (k:bx F0 n ((e,.raw v)::(d,s)::E) L (wpList P c Q a)):bx F0 n E L (wpList P c Q (⟨some d,.move x,ty,pos,aft,none⟩::⟨some e,.binOp b t X Y u,ty',pos',aft',none⟩::a)):=by simp only[Prod.mk.injEq] at h;exact mv h.1 h.2.1 (bn h.2.2.1 h.2.2.2.1 h.2.2.2.2.1 h.2.2.2.2.2 k)
theorem oL (hT:KT P T K) (h:(ev E X,Nat.blt d n)=(some (.ptr K x),true)) (k:bx F0 n ((d,.val K x)::E) L (wpList P b Q a)):bx F0 n E L (wpList P b Q (⟨some d,.load T X,ty,pos,aft,none⟩::a)):=L2 (LG hT (Prod.mk.inj h).1) (Prod.mk.inj h).2 k
theorem oI (hT:KT P T (cv i)) (h:(ev E X,Nat.blt d n)=(some (.ptr (cv i) x),true)) (k:bx F0 n ((d,.raw (.int i x))::E) L (wpList P b Q a)):bx F0 n E L (wpList P b Q (⟨some d,.load T X,ty,pos,aft,none⟩::a)):=L2 (Lz hT (Prod.mk.inj h).1) (Prod.mk.inj h).2 k
theorem oE (h:(ev E X,l[i]?,Nat.blt d n)=(some (.tup l),some s,true)) (k:bx F0 n ((d,s)::E) L (wpList P b Q a)):bx F0 n E L (wpList P b Q (⟨some d,.extract X i,ty,pos,aft,none⟩::a)):=by simp only[Prod.mk.injEq] at h;exact L2 (Ma h.1 h.2.1) h.2.2 k
theorem oN {xs:List α} (ht:P.underlying t=some (.slice e)) (h:(ev E X,Nat.blt d n)=(some (.val (j_ K) xs),true)) (k:bx F0 n ((d,.raw (.int .i64 xs.length))::E) L (wpList P b Q a)):bx F0 n E L (wpList P b Q (⟨some d,.call ⟨.builtin .len,#[X],#[t]⟩,ty,pos,aft,none⟩::a)):=L2 (Mi ht (Prod.mk.inj h).1 bR) (Prod.mk.inj h).2 k
theorem oF {f:Pp β} (hT:tR P T i=some (OT fs i,m+1)) (h:(ev E X,fs[i]?,Nat.blt d n)=(some (.ptr (P0 fs) x),some f,true)) (k:bx F0 n ((d,.ptr f.K (f.get x))::E) L (wpList P b Q a)):bx F0 n E L (wpList P b Q (⟨some d,.fieldAddr T X i,ty,pos,aft,none⟩::a)):=by simp only[Prod.mk.injEq] at h;exact L2 (LT hT h.2.1 h.1) h.2.2 k
theorem oM (hT:tR P T i=some (o,m+1)) (h:(ev E X,Nat.blt d n)=(some (.raw (.pointer (some ⟨b,off,none⟩))),true)) (k:bx F0 n ((d,.raw (.pointer (some ⟨b,off+o,none⟩)))::E) L (wpList P c Q a)):bx F0 n E L (wpList P c Q (⟨some d,.fieldAddr T X i,ty,pos,aft,none⟩::a)):=L2 (L4 hT (Prod.mk.inj h).1) (Prod.mk.inj h).2 k
theorem oX {K:Kd α} {i:Int} (hb:Sd r R b K0 x) (p:At K0 x off (h_ m K) xs up) (hi:idx xs i=some z) (hT:P.underlying T=some (.array m e)) (hs:(P.info? e).map (·.size)=some K.n) (h:(ev E X,ev E I,Nat.blt d n)=(some (.raw (.pointer (some ⟨b,off,none⟩))),some (.raw (.int q i)),true)) (k:bx F0 n ((d,.raw (.pointer (some ⟨b,off+i.toNat*K.n,none⟩)))::E) (r::L) (wpList P c Q a)):bx F0 n E (r::L) (wpList P c Q (⟨some d,.indexAddr T X I,ty,pos,aft,none⟩::a)):=by simp only[Prod.mk.injEq] at h;exact L2 (OJ hb p hi hT hs h.1 h.2.1) h.2.2 k
theorem oS {K:Kd α} (hx:idx xs i=some x) (hT:P.underlying T=some (.slice e)) (hs:(P.info? e).map (·.size)=some K.n) (h:(ev E X,ev E I,Nat.blt d n)=(some (.val (j_ K) xs),some (.raw (.int q i)),true)) (k:bx F0 n ((d,.ptr K x)::E) L (wpList P b Q a)):bx F0 n E L (wpList P b Q (⟨some d,.indexAddr T X I,ty,pos,aft,none⟩::a)):=by simp only[Prod.mk.injEq] at h;exact L2 (LI hx hT hs h.1 bR h.2.1) h.2.2 k
theorem oC {i:IntKind} (hs:(P.underlying q).isSome=true) (ht:P.underlying t=some (.int i)) (h:(ev E X,Nat.blt d n)=(some (.raw (.int j x)),true)) (k:bx F0 n ((d,.raw (.int i (i.wrap x)))::E) L (wpList P b Q a)):bx F0 n E L (wpList P b Q (⟨some d,.convert q t X,ty,pos,aft,none⟩::a)):=L2 (L3 hs ht (Prod.mk.inj h).1) (Prod.mk.inj h).2 k
theorem cx {xs:List Operand} (hc:∀a w,(callFunc f a).run P w= .ok (.enter f a) w) (h:(ev E X,Wl E xs,Nat.blt d n)=(some (.raw (.func (.func f) #[] #[])),some l,true)) (ho:Ok P f l L s L') (k:bx F0 n ((d,s)::E) L' (wpList P c Q b)):bx F0 n E L (wpList P c Q (⟨some d,.call ⟨.value X,xs.toArray,tys⟩,ty,pos,aft,none⟩::b)):=by simp only[Prod.mk.injEq] at h;exact bx.call hc h.1 h.2.1 ho h.2.2 k
theorem f_ (hc:c=b) (h:((a[j]?).bind (·.dst),look E g)=(some g,some (.raw (.bool c)))) (k:bx F0 n E L (wpList P a Q (⟨o,op,ty,pos,aft,none⟩::rest))):bx F0 n E L (wpList P a Q (⟨o,op,ty,pos,aft,some (j,b)⟩::rest)):=gc hc (Prod.mk.inj h).1 (Prod.mk.inj h).2 k
theorem fd (hc:c= !b) (h:((ops[j]?).bind (·.dst),look E g,Nat.blt u n)=(some g,some (.raw (.bool c)),true)) (k:bx F0 n ((u,.raw undef)::E) L (wpList P ops Q rest)):bx F0 n E L (wpList P ops Q (⟨some u,op,ty,pos,aft,some (j,b)⟩::rest)):=by simp only[Prod.mk.injEq] at h;exact sk hc h.1 h.2.1 h.2.2 k
theorem pT (hc:c=true) (h:(ev E x,ev E y,Nat.blt d n)=(some (.raw (.bool c)),some s,true)) (k:bx F0 n ((d,s)::E) L (wpList P b Q a)):bx F0 n E L (wpList P b Q (⟨some d,.pick x y z,ty,pos,aft,none⟩::a)):=by simp only[Prod.mk.injEq] at h;exact L2 (UE hc h.1 h.2.1) h.2.2 k
theorem pF (hc:c=false) (h:(ev E x,ev E z,Nat.blt d n)=(some (.raw (.bool c)),some s,true)) (k:bx F0 n ((d,s)::E) L (wpList P b Q a)):bx F0 n E L (wpList P b Q (⟨some d,.pick x y z,ty,pos,aft,none⟩::a)):=by simp only[Prod.mk.injEq] at h;exact L2 (UI hc h.1 h.2.1) h.2.2 k
theorem I_ (h:(ev (iN us E) x,Nat.blt d n)=(some s,true)) (k:Q_ P n Lf a F0 K p l ((d,s)::E)):Q_ P n Lf a F0 K (us::p) (⟨some d,.move x,ty,pos,aft,none⟩::l) E:=vm (Prod.mk.inj h).1 (Prod.mk.inj h).2 k
theorem Pf (h:(ev (iN us E) X,ev (iN us E) Y,SM b i x y,Nat.blt d n)=(some (.raw (.int i x)),some (.raw (.int i y)),some v,true)) (k:Q_ P n Lf a F0 K p l ((d,.raw v)::E)):Q_ P n Lf a F0 K (us::p) (⟨some d,.binOp b t X Y u,ty,pos,aft,none⟩::l) E:=by simp only[Prod.mk.injEq] at h;exact vb h.1 h.2.1 h.2.2.1 h.2.2.2 k
end
end Go.Sim
namespace Go.Sim
open Go
section
variable {P:Program} {ops:Array Oper} {Q:Exit→Act→World→Prop} {rest:List Oper} {F0:Fz} {n:Nat} {E:List (Nat×SV)} {L:List i_}
variable {d:Nat} {op:Op} {ty:TypeId} {pos:String} {aft:Array Edge} {s:SV}
theorem Cm (F:Fz):∀bs:List UInt8,cb (cv .u8) F (bs.map λb=>Value.int .u8 b.toNat) (bs.map λb=>(b.toNat:Int))|[]=>rfl|b::bs=>⟨[.int .u8 b.toNat],_,rfl,rfl,Cm F bs⟩
theorem Ow (hT:(P.underlying T).isSome=true) (hU:P.underlying U=some (.slice e)) (he:P.underlying e=some (.int .u8)) (hX:ev E X=some s) (hr:Pe s QQ xs) (hd:Nat.blt d n=true)
  (k:bx F0 n ((d,.val (j_ (cv .u8)) xs)::E) L (wpList P ops Q rest)):bx F0 n E L (wpList P ops Q (⟨some d,.convert T U X,ty,pos,aft,none⟩::rest)):=
 LH rfl λF a w h0 hE hS=>by
  obtain⟨s1,e1,rfl⟩:=qp (hr F _ (hE.eval hX))
  obtain⟨ds,hds⟩:=Option.isSome_iff_exists.1 hT
  have hrun:=Lib.run_convert_string_bytes (P:=P) w T U e s1 hds hU he
  let o:Obj:= .cells (Lib.bytesCells w e s1) e ((Lib.bytesCells w e s1).size,(Lib.bytesCells w e s1).size+1)
  have hc:Uh w (Lib.bytesWorld w e s1) A_.emp:=⟨rfl,rfl,rfl,λb hb _=>Lib.bytesWorld_at_old w e s1 b hb⟩
  obtain⟨hle,hS'⟩:=Na hS (A_.one w.heap.size o) hc (λb hb=>by
    by_cases h:b=w.heap.size
    · omega
    · exact absurd (LZ o h) hb) (λb q hq=>by
    obtain⟨rfl,rfl⟩:=LV hq
    exact Lib.bytesWorld_at_new w e s1)
  have hb:(F.add (A_.one w.heap.size o)).blk w.heap.size=some o:=by
    simp only[Fz.add,P_.fresh hS _ (HK _)]
    exact Lq _ _
  unfold Oper.wp
  simp only[execOp,e1,HC,hrun,Hv,HI,Oper.upon]
  refine k _ _ _ (Mk h0 hle) ((hE.mono hle).put hd ?_) hS'
  simp only[SV.ok]
  have hcap:=grownCap_ge w s1.size 0 e
  have hl:(s1.data.toList.map λb=>(b.toNat:Int)).length=s1.size:=by simp
  refine⟨[.slice (some ⟨w.heap.size,0,none⟩) s1.size (grownCap w s1.size 0 e)],⟨some ⟨w.heap.size,0,none⟩,grownCap w s1.size 0 e,by rw[hl],by rw[hl];exact hcap,.inr ⟨_,Lib.bytesCells w e s1,e,_,rfl,rfl,hb,?_,?_⟩⟩,rfl⟩
  · have hsz:s1.data.size=s1.size:=rfl
    simp only[hl,cv,Lib.bytesCells,Array.size_append,Array.size_map,Array.size_replicate];omega
  · have hsz:s1.data.size=s1.size:=rfl
    have:((Lib.bytesCells w e s1).toList.drop 0).take ((s1.data.toList.map λb=>(b.toNat:Int)).length*(cv .u8).n)=s1.data.toList.map λb=>Value.int .u8 b.toNat:=by
      rw[hl]
      simp only[cv,Lh,IP,Lib.bytesCells,KZ,Array.toList_map]
      rw[List.take_left']
      simp
    show cb _ _ (List.take _ (List.drop 0 _)) _
    rw[this]
    exact Cm _ _
end
end Go.Sim
namespace Go.Sim
open Go
section
variable {P:Program} {ops:Array Oper} {Q:Exit→Act→World→Prop} {rest:List Oper} {F0:Fz} {n:Nat} {E:List (Nat×SV)} {L:List i_}
variable {τ:Type} {KT:Kd τ} {TE TT:TypeId} {v:Value}
abbrev FW (KT:Kd τ) (TE TT:TypeId) (v:Value) (xs:List (List τ)):i_:=pO O9 KT (λ(_:List τ) (q:Value)=>q) (λx:List τ=>x) TE TT v xs
theorem wa:∀{xs:List (List τ)} {qs:List Value},qs.length=xs.length→List.zipWith (λ(_:List τ) (q:Value)=>q) xs qs=qs|[],[],_=>rfl|x::xs,q::qs,h=>by rw[List.zipWith_cons_cons,wa (by simpa using h)]|[],_::_,h=>by simp at h|_::_,[],h=>by simp at h
theorem OH (hs:St F w L):St F w (.own KT (.slice none 0 0) TT []::L):=by refine⟨A_.emp,.inl ⟨rfl,rfl,rfl⟩,λb hb=>absurd rfl hb,?_⟩;rw[Ms];exact hs
theorem NC (hs:St F w L):∀m,St F w (PT KT (λx:List τ=>x) TT (List.replicate m []) (List.replicate m (.slice none 0 0))++L)|0=>hs|m+1=>by have:=NC hs m;rw[Iy,Iy];exact OH (KT:=KT) (TT:=TT) this
theorem MU (k:bx F0 n E (FW KT TE TT v (List.replicate m [])::L) X):bx F0 n E (.own O9 v TE (List.replicate m (.slice none 0 0))::L) X:=λF a w h0 hE hS=>by refine k F a w h0 hE (Mp (qs:=List.replicate m (.slice none 0 0)) (by simp) ?_);rw[wa (by simp)];exact(NC (KT:=KT) (TT:=TT) hS m).perm JM
theorem MV {xs:List (List τ)} {i:Int} (hT:Po KT) (hi:idx xs i=some x) (k:∀(q:Value) (ys:List Value) (Rs:List i_),ys.length=xs.length→idx ys i=some q→(∀x' q' F w L',St F w (.own O9 v TE (List.set ys i.toNat q'):: .own KT q' TT x'::(Rs++L'))→St F w (FW KT TE TT v (List.set xs i.toNat x')::L'))→bx F0 n E (.own O9 v TE ys:: .own KT q TT x::(Rs++L)) X):bx F0 n E (FW KT TE TT v xs::L) X:=λF a w h0 hE hS=>by obtain⟨qs,hl,b⟩:=hS.manyOpen Po.raw hT;rw[wa hl] at b;obtain⟨h1,h2,h3⟩:=kg hi;have j:i.toNat<xs.length:=(Ht.1 h3).1;(have c:i.toNat<qs.length:=by omega);have hx:xs[i.toNat]=x:=(Ht.1 h3).2;(have f:∀x' q',PT KT (λx:List τ=>x) TT (xs.set i.toNat x') (qs.set i.toNat q')=PT KT (λx:List τ=>x) TT (xs.take i.toNat) (qs.take i.toNat)++.own KT q' TT x'::PT KT (λx:List τ=>x) TT (xs.drop (i.toNat+1)) (qs.drop (i.toNat+1)):=λx' q'=>by unfold PT;rw[I7,Il j,I7,Il c];rw[List.zipWith_append (by simp;omega)];rfl);(have g:xs.set i.toNat x=xs:=by rw[←hx];simp);(have e:qs.set i.toNat qs[i.toNat]=qs:=by simp);have d:=f x qs[i.toNat];rw[g,e] at d;rw[d] at b;refine k qs[i.toNat] qs (PT KT (λx:List τ=>x) TT (xs.take i.toNat) (qs.take i.toNat)++PT KT (λx:List τ=>x) TT (xs.drop (i.toNat+1)) (qs.drop (i.toNat+1))) hl ?_ (λx' q' F w L' h=>?_) F a w h0 hE (b.perm ?_);unfold idx;rw[Il h1];simp[c];refine Mp (qs:=qs.set i.toNat q') (by simp[hl]) ?_;rw[wa (by simp[hl]),f x' q'];refine h.perm (List.Perm.cons _ ?_);simp only[HS,IM];exact JM.symm;refine List.Perm.cons _ ?_;simp only[HS,IM];exact JM
end
end Go.Sim
namespace Go.Sim
open Go
section
variable {P:Program} {ops:Array Oper} {Q:Exit→Act→World→Prop} {rest:List Oper} {F0:Fz} {n:Nat} {E:List (Nat×SV)} {L:List i_}
variable {d:Nat} {op:Op} {ty:TypeId} {pos:String} {aft:Array Edge} {s:SV}
end
end Go.Sim
namespace Go.Sim
open Go
section
variable {P:Program} {ops:Array Oper} {Q:Exit→Act→World→Prop} {rest:List Oper} {F0:Fz} {n:Nat} {E:List (Nat×SV)} {L:List i_}
variable {d:Nat} {op:Op} {ty:TypeId} {pos:String} {aft:Array Edge} {s:SV}
end
end Go.Sim
namespace Go.Sim
open Go
theorem kr (h:a=b:=by kernel_rfl):a=b:=h
theorem kq {P:Program} {K:Kd α} (h1:(P.info? T).map (·.size)=some K.n:=by kernel_rfl) (h2:Sg P T=some K.agg:=by kernel_rfl):KT P T K:=⟨h1,h2⟩
theorem uq {γ:Type} {fs:List (Pp γ)} {i:Nat} {f:Pp γ} {s1:γ→f.α→γ} (h1:fs[i]? =some f:=by exact rfl) (h2:∀x y,f.get (s1 x y)=y:=by exact λ_ _=>rfl) (h3:∀x y,RK x (s1 x y) fs i:=by exact λ_ _=>by simp[RK]):P6 fs i f s1:=⟨h1,h2,h3⟩
class ZK {α:Type} (K:Kd α) (z:outParam α) where
 cs:List Value
 rd:∀F,K.rd F cs z
instance (k:IntKind):ZK (cv k) 0:=⟨[.int k 0],λ_=>rfl⟩
instance:ZK oT false:=⟨[.bool false],λ_=>rfl⟩
instance:ZK QQ []:=⟨[.string ByteArray.empty],λ_=>⟨_,rfl,rfl⟩⟩
instance {α:Type} (K:Kd α):ZK (j_ K) []:=⟨[.slice none 0 0],λ_=>⟨none,0,rfl,HK _,.inl rfl⟩⟩
instance {α β:Type} (K:Kd α) (V:Kd β):ZK (Ub K V) []:=⟨[.map none],λ_=> .inl ⟨rfl,rfl⟩⟩
instance:ZK O9 (.slice none 0 0):=⟨[.slice none 0 0],λ_=>⟨rfl,rfl⟩⟩
instance {α:Type} (m:Nat) (K:Kd α) (z:α) [h:ZK K z]:ZK (h_ m K) (List.replicate m z):=⟨(List.replicate m h.cs).flatten,λF=>⟨by simp,py (h.rd F) m⟩⟩
class ZF {β:Type} (fs:List (Pp β)) (z:β) where
 cs:List Value
 rd:∀F,QV F fs cs z
instance {β:Type} (z:β):ZF [] z:=⟨[],λ_=>rfl⟩
instance {β γ:Type} (K:Kd γ) (g:β→γ) (fs:List (Pp β)) (z:β) [h:ZK K (g z)] [k:ZF fs z]:ZF (⟨K,g⟩::fs) z:=⟨h.cs++k.cs,λF=>⟨h.cs,k.cs,rfl,h.rd F,k.rd F⟩⟩
@[reducible] def zs {β:Type} {fs:List (Pp β)} {z:β} [h:ZF fs z]:ZK (P0 fs) z:=⟨h.cs,h.rd⟩
def m7 (P:Program) (T:TypeId):Option (Nat×Nat×List Value):=(P.info? T).bind λi=>i.zero.map λv=>(i.size,i.bytes,v.cells.toList)
theorem pS {P:Program} {T:TypeId} {m b:Nat} {cs:List Value} (h:m7 P T=some (m,b,cs)):∃ie zv,P.info? T=some ie∧ie.zero=some zv∧ie.size=m∧ie.bytes=b∧zv.cells.toList=cs:=by obtain⟨i,h1,h2⟩:=Ig.1 h;obtain⟨v,h3,h4⟩:=H8.1 h2;cases h4;exact⟨i,v,h1,h3,rfl,rfl,rfl⟩
theorem zq {α:Type} {P:Program} {T:TypeId} {K:Kd α} {z:α} [h:ZK K z] (e:(m7 P T).map (·.2.2)=some h.cs:=by kernel_rfl):ZT P T K z:=by obtain⟨⟨m,b,ds⟩,h1,h2⟩:=H8.1 e;simp only at h2;subst h2;obtain⟨i,v,a1,a2,a3,a4,a5⟩:=pS h1;exact⟨v,by rw[a1];exact a2,λF=>a5▸h.rd F⟩
theorem TF {α:Type} {P:Program} {T:TypeId} {K:Kd α} {z:α} [h:ZK K z] (e:(m7 P T).map (λx=>(x.1,Nat.blt 0 x.1,x.2.2))=some (K.n,true,h.cs):=by kernel_rfl):ET P T K z:=by obtain⟨⟨m,b,ds⟩,h1,h2⟩:=H8.1 e;simp only[Prod.mk.injEq] at h2;obtain⟨rfl,h3,rfl⟩:=h2;obtain⟨i,v,a1,a2,a3,a4,a5⟩:=pS h1;exact⟨i,v,a1,a2,a3,by simpa[Jd] using h3,λF=>a5▸h.rd F⟩
theorem aq {α:Type} {P:Program} {T:TypeId} {K:Kd α} {z:α} [h:ZK K z] {b:Nat} (e:(m7 P T).map (λx=>(x,Nat.blt 0 x.1,Nat.ble x.2.1 4096))=some ((K.n,b,h.cs),true,true):=by kernel_rfl):AT P T K z b:=by obtain⟨⟨m,b,ds⟩,h1,h2⟩:=H8.1 e;simp only[Prod.mk.injEq] at h2;obtain⟨⟨rfl,rfl,rfl⟩,h3,h4⟩:=h2;obtain⟨i,v,a1,a2,a3,a4,a5⟩:=pS h1;exact⟨i,v,a1,a2,a3,a4,by simpa[Jd] using h3,IR h4,λF=>a5▸h.rd F⟩
def Wg {β:Type}:Nat→List (Pp β)→List (Nat×Nat)|_,[]=>[]|o,f::fs=>(o,f.K.n)::Wg (o+f.K.n) fs
theorem Cn:∀(fs:List (Pp β)) (o i:Nat) (f:Pp β),fs[i]? =some f→(Wg o fs)[i]? =some (o+OT fs i,f.K.n)|[],_,_,_,h=>by cases h|g::fs,o,0,f,h=>by cases h;rfl|g::fs,o,i+1,f,h=>by have:=Cn fs (o+g.K.n) i f h;simp only[Wg,List.getElem?_cons_succ,this,OT,Lj]
def XL (P:Program) (T:TypeId):Option (List (Nat×Nat)):=match P.underlying T with|some (.struct ff)=>ff.toList.mapM (λf=>(P.info? f.type).map λi=>(f.offset,i.size))|_=>none
theorem bq {β:Type} {P:Program} {T:TypeId} {fs:List (Pp β)} {z:β} [h:ZF fs z] (e:((m7 P T).map (·.2.2),XL P T)=(some h.cs,some (Wg 0 fs)):=by kernel_rfl):BT P T fs z:=by simp only[Prod.mk.injEq] at e;obtain⟨e,e2⟩:=e;obtain⟨⟨m,b,ds⟩,h1,h2⟩:=H8.1 e;simp only at h2;subst h2;obtain⟨i,v,a1,a2,a3,a4,a5⟩:=pS h1;unfold XL at e2;split at e2;rename_i ff hu;refine⟨i,v,ff,_,a1,a2,hu,e2,λj f hj=>?_,λF=>a5▸h.rd F⟩;have:=Cn fs 0 j f hj;simpa using this;cases e2
def Yb (P:Program) (T:TypeId):Option (Nat×Nat):=match P.underlying T with|some (.array m e)=>(P.info? e).map λi=>(m,i.size)|_=>none
theorem XC {α:Type} {P:Program} {T:TypeId} {m:Nat} {K:Kd α} {z:α} [h:ZK K z] (e:((m7 P T).map (·.2.2),Yb P T)=(some (List.replicate m h.cs).flatten,some (m,K.n)):=by kernel_rfl):Wt P T m K (List.replicate m z):=by simp only[Prod.mk.injEq] at e;obtain⟨e,e2⟩:=e;obtain⟨⟨k,b,ds⟩,h1,h2⟩:=H8.1 e;simp only at h2;subst h2;obtain⟨i,v,a1,a2,a3,a4,a5⟩:=pS h1;unfold Yb at e2;split at e2;rename_i k e' hu;obtain⟨ie,b1,b2⟩:=H8.1 e2;simp only[Prod.mk.injEq] at b2;obtain⟨rfl,b2⟩:=b2;exact⟨i,v,e',ie,a1,a2,hu,b1,b2,by simp,λF=>by rw[a5];exact py (h.rd F) _⟩;cases e2
theorem bc {i:Nat} {x x' y:β} {f:Pp β} (hf:fs[i]? =some f) (hX:ev E X=some s) (hr:Pe s f.K (f.get x')) (r:Pc E fs ps x' y) (hb:RK x x' fs i:=by simp[RK]):Pc E fs ((i,X)::ps) x y:= .cons hf hX hr hb r
abbrev j1:=@Nr
abbrev j2:=@Ns
abbrev j3:=@Nt
abbrev j4:=@Nu
def X9 (E:List (Nat×SV)):List ResultVar→Option (List SV)|[]=>some []| .tmp u::l=>(match look E u,X9 E l with|some s,some ss=>some (s::ss)|_,_=>none)|_=>none
theorem AK:∀{l:List ResultVar} {ss:List SV},X9 E l=some ss→Rw P E l ss|[],_,h=>by cases h;exact .nil| .tmp u::l,ss,h=>by simp only[X9] at h;split at h;rename_i s t h1 h2;cases h;exact .tm h1 (AK h2);cases h| .cell _ _::_,_,h=>by cases h
section
variable {P:Program} {F0:Fz} {n:Nat} {E:List (Nat×SV)} {L:List i_} {s:SV}
theorem rq {fn:Func} {l:List ResultVar} (hr:fn.results=l.toArray) (h:X9 E l=some ss) (he:nP ss=s) (hL:L=L'):bx F0 n E L (bodyPost P fn (λe w'=>∃G v,e= .returned v∧F0≤G∧St G w' L'∧s.ok G v) .ret):=Nh hr (AK h) he hL
theorem rX {fn:Func} {l:List ResultVar} {ss:List SV} {C:Type} {s:C→SV} {L':C→List i_} (y:C) (hr:fn.results=l.toArray) (h:X9 E l=some ss) (he:nP ss=s y) (hL:L=L' y):bx F0 n E L (bodyPost P fn (λe w'=>∃y G v,e= .returned v∧F0≤G∧St G w' (L' y)∧(s y).ok G v) .ret):=NR y hr (AK h) he hL
end
def WJ (E:List (Nat×SV)) (k:IntKind):List (Nat×Operand)→List Int→Option (List Int)|[],xs=>some xs|(i,X)::ps,xs=>match ev E X,Nat.blt i xs.length with|some (.raw (.int k' y)),true=>if k'=k then WJ E k ps (xs.set i y) else none|_,_=>none
theorem bI:∀{ps:List (Nat×Operand)} {xs ys:List Int},WJ E k ps xs=some ys→B_ E (cv k) ps xs ys|[],xs,ys,h=>by cases h;exact .nil _|(i,X)::ps,xs,ys,h=>by simp only[WJ] at h;split at h;rename_i k' y h1 h2;split at h;rename_i hk;subst hk;exact .cons h2 h1 OW (bI h);cases h;cases h
end Go.Sim
namespace Go.Sim
open Go
theorem n_ (h:(ev E x,Nat.blt d n)=(some s,true)) (k:bx F0 n ((d,s)::E) L K):bx F0 n E L (wpList P ops (Exit.then K Q) [⟨some d,.assign x,ty,pos,aft,none⟩]):=a_ h (nt k)
theorem r_ (h:(ev E x,Nat.blt d n)=(some s,true)) (k:bx F0 n ((d,s)::E) L (R .ret)):bx F0 n E L (wpList P ops (Exit.then (Code.ret.wp P R) Q) [⟨some d,.assign x,ty,pos,aft,none⟩]):=a_ h (nt (rc k))
theorem t_ {y:Code} (h:(ev E x,Nat.blt d n)=(some s,true)) (k:bx F0 n ((d,s)::E) L (wpList P (⟨some d,.move x,ty,pos,aft,none⟩::l).toArray (Exit.then (y.wp P Q) Q) l)):bx F0 n E L ((Code.seq (Code.region iz (⟨some d,.move x,ty,pos,aft,none⟩::l).toArray false) y).wp P Q):=sr (m_ h k)
theorem u_ {y:Code} (h:(ev E x,Nat.blt d n)=(some s,true)) (k:bx F0 n ((d,s)::E) L (wpList P (⟨some d,.assign x,ty,pos,aft,none⟩::l).toArray (Exit.then (y.wp P Q) Q) l)):bx F0 n E L ((Code.seq (Code.region iz (⟨some d,.assign x,ty,pos,aft,none⟩::l).toArray false) y).wp P Q):=sr (a_ h k)
theorem v_ {y:Code} (h:(ev E x,Nat.blt d n)=(some s,true)) (k:bx F0 n ((d,s)::E) L (y.wp P Q)):bx F0 n E L ((Code.seq (Code.region iz [⟨some d,.assign x,ty,pos,aft,none⟩].toArray false) y).wp P Q):=sr (a_ h (nt k))
theorem e_ (k:bx F0 n E L M):bx F0 n E L (Exit.then K (Exit.inBlock iz (Exit.then M Q)) (.exit iz)):=te (bh (tn k))
theorem c_ {c y:Code} (k:bx F0 n E L (c.wp P (Exit.inBlock iz (Exit.then (y.wp P R) R)))):bx F0 n E L (Code.skip.wp P (Exit.then ((Code.seq (Code.block iz c) y).wp P R) Q)):=ct (sq (bk k))
theorem q_ {x y:Code} (k:bx F0 n E L (x.wp P (Exit.then (y.wp P R) R))):bx F0 n E L (wpList P ops (Exit.then ((Code.seq x y).wp P R) Q) []):=nt (sq k)
theorem s_ {x y:Code} (k:bx F0 n E L (wpList P l.toArray (Exit.then (x.wp P (Exit.then (y.wp P Q) Q)) (Exit.then (y.wp P Q) Q)) l)):bx F0 n E L ((Code.seq (Code.seq (Code.region iz l.toArray false) x) y).wp P Q):=sq (sr k)
theorem d_ (h:(ev E x,Nat.blt d n,ev ((d,s)::E) y,Nat.blt e n)=(some s,true,some r,true)) (k:bx F0 n ((e,r)::(d,s)::E) L (wpList P ops Q l)):bx F0 n E L (wpList P ops Q (⟨some d,.assign x,ty,pos,aft,none⟩::⟨some e,.assign y,tz,poz,afz,none⟩::l)):=by simp only[Prod.mk.injEq] at h;exact a_ (by rw[h.1,h.2.1]) (a_ (by rw[h.2.2.1,h.2.2.2]) k)
theorem w_ (h:(ev E x,Nat.blt d n,ev ((d,s)::E) y,Nat.blt e n)=(some s,true,some r,true)) (k:bx F0 n ((e,r)::(d,s)::E) L (wpList P ops Q l)):bx F0 n E L (wpList P ops Q (⟨some d,.move x,ty,pos,aft,none⟩::⟨some e,.move y,tz,poz,afz,none⟩::l)):=by simp only[Prod.mk.injEq] at h;exact m_ (by rw[h.1,h.2.1]) (m_ (by rw[h.2.2.1,h.2.2.2]) k)
theorem l_ (h:(ev E x,Nat.blt d n,ev ((d,s)::E) X,ev ((d,s)::E) Y,SM b i p q,Nat.blt e n)=(some s,true,some (.raw (.int i p)),some (.raw (.int i q)),some v,true)) (h2:(ev ((e,.raw v)::(d,s)::E) z,Nat.blt f n)=(some r,true)) (k:bx F0 n ((f,r)::(e,.raw v)::(d,s)::E) L (R .normal)):bx F0 n E L (Exit.inBlock iz (Exit.then ((Code.region ie [⟨some d,.move x,ty,pos,aft,none⟩,⟨some e,.binOp b t X Y u,tz,poz,afz,none⟩,⟨some f,.assign z,tw,pow,afw,none⟩].toArray false).wp P R) Q) .normal):=Ne (tn (rg (mb h (a_ h2 (nl k)))))
theorem k_ (h:(ev E X,ev E Y,SM b i p q,Nat.blt d n)=(some (.raw (.int i p)),some (.raw (.int i q)),some v,true)) (h2:(ev ((d,.raw v)::E) z,Nat.blt f n)=(some r,true)) (k:bx F0 n ((f,r)::(d,.raw v)::E) L (R .normal)):bx F0 n E L (Exit.inBlock iz (Exit.then ((Code.region ie [⟨some d,.binOp b t X Y u,tz,poz,afz,none⟩,⟨some f,.move z,tw,pow,afw,none⟩].toArray false).wp P R) Q) .normal):=Ne (tn (rg (b_ h (m_ h2 (nl k)))))
end Go.Sim
