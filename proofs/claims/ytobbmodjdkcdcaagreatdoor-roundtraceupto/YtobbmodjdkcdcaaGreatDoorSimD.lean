import Derived.Test.YtobbmodjdkcdcaaGreatDoorSimC
import Derived.Scope
import Derived.Lib.ConvBytes
import Derived.Laws.AppendOwn
set_option linter.all false
set_option autoImplicit true
set_option relaxedAutoImplicit true
namespace Go.Sim
open Go
section
variable {P:Program} {Q:Exit→Act→World→Prop} {F0:Fz} {n:Nat} {E:List (Nat×SV)} {L:List Res}
theorem Under.scope {c:Code} (k:Under F0 n E L (c.wp P (Exit.noGoto Q))):Under F0 n E L ((Code.scope c).wp P Q):=λF a w h0 hE hS=>wp_scope_straight (k F a w h0 hE hS)
theorem MJ (k:Under F0 n E L (Q .ret)):Under F0 n E L (Exit.noGoto Q .ret):=k
theorem Under.label (k:Under F0 n E L (Q .normal)):Under F0 n E L ((Code.label l).wp P Q):=λF a w h0 hE hS=>wp_label (k F a w h0 hE hS)
end
def SvF (s:SV):Prop:=∀F G u,s.ok F u→s.ok G u
theorem SvF.raw:SvF (.raw v):=λF G u h=>by simp only[SV.ok] at*;exact h
theorem SvF.val (hK:Free K):SvF (.val K x):=λF G u h=>by simp only[SV.ok] at*;obtain⟨cs,a,b⟩:=h;exact⟨cs,hK _ _ _ _ a,b⟩
def BR {α:Type} (v:Value) (K:Kd α) (xs:List α):List SV→List SV→Prop|[],[]=>True|a::l,b::l'=>(a=b∨(a= .raw v∧b= .val (kSl K) xs))∧BR v K xs l l'|_,_=>False
theorem vZ (hv:(kSl K).val F v xs):∀{l l':List SV} {vs:List Value},BR v K xs l l'→SV.oks F vs l→SV.oks F vs l'|[],[],vs,_,h=>h|a::l,b::l',[],_,h=>by simp only[SV.oks] at h|a::l,b::l',u::vs,hl,h=>by simp only[SV.oks] at h⊢;obtain⟨h1,h2⟩:=hl;refine⟨?_,vZ hv h2 h.2⟩;rcases h1 with rfl|⟨rfl,rfl⟩;exact h.1;have:=h.1;simp only[SV.ok] at this⊢;subst this;exact hv|[],_::_,_,hl,_=>hl.elim|_::_,[],_,hl,_=>hl.elim
theorem wa {K:Kd α} {xs:List α} {F:Fz} (hap:Apart F h) (hh:(Res.own K v e xs).holds (F.add h) h):(kSl K).val (F.add h) v xs:=by rcases hh with⟨rfl,rfl,_⟩|⟨g,cap,cur,rfl,rfl,h3,h4,h5,h6⟩;exact⟨[.slice none 0 0],⟨none,0,rfl,F9 _,.inl rfl⟩,rfl⟩;refine⟨[.slice (some ⟨g,0,none⟩) xs.length cap],⟨_,cap,rfl,h3,.inr ⟨⟨g,0,none⟩,cur,e,(0,0),rfl,rfl,?_,?_,by simpa using h6⟩⟩,rfl⟩;have hg:F.blk g=none:=hap g (by rw[Ju];simp);simp only[Fz.add,hg];exact Ju _ _;have:xs.length*K.n≤cap*K.n:=FS _ h3;simp only;omega
def Fz.but (G F:Fz) (h:Frag) (hle:F≤G) (hap:Apart F h):Fz:={G with blk:=λb=>match h b with|none=>G.blk b|some _=>none,glob:=⟨λg k xs e=>by obtain⟨T,fr,q⟩:=F.glob.on g k xs e;(have h1:h g=none:=by cases hh:h g with|none=>rfl|some o=>have:=hap g (by rw[hh];simp);rw[this] at q;cases q);exact⟨T,fr,by simp only[h1];exact hle.blk _ _ q⟩⟩}
theorem sA {F G:Fz} (hr:(Res.own K v e xs).holds F h) (hap:Apart F h) (hg:F.add h≤G):∃B,F≤B∧(Res.own K v e xs).holds B h∧Apart B h∧B.add h=G:=by have hFG:F≤G:=Ki (F.le_add h) hg;have hFB:F≤G.but F h hFG hap:=⟨λb o hb=>by(have hb0:h b=none:=by cases hh:h b with|none=>rfl|some q=>have:=hap b (by rw[hh];simp);rw[this] at hb;cases hb);simp only[Fz.but,hb0];exact hFG.blk _ _ hb,hFG.os,hFG.tape,hFG.output⟩;refine⟨G.but F h hFG hap,hFB,Res.mono hFB hr,λb hb=>?_,?_⟩;(cases hh:h b with|none=>exact absurd hh hb|some q=>simp only[Fz.but,hh]);cases G with|mk blk os tape out glob=>simp only[Fz.but,Fz.add,Fz.mk.injEq,IM];funext b;cases hh:h b with|none=>simp only[];cases blk b<;>rfl|some q=>simp only[];(have:(F.add h).blk b=some q:=by have hF:=hap b (by rw[hh];simp);simp only[Fz.add,hF];exact hh);exact(hg.blk _ _ this).symm
theorem KJ {L:List Res} (ho:∀L,Ok P f l' L s L) (hl:BR v K xs l l') (hf:SvF s):Ok P f l (.own K v e xs::L) s (.own K v e xs::L):=λF w vs hvs hS=>by obtain⟨h,hr,hap,hs'⟩:=hS;have hle:F≤F.add h:=F.le_add h;have h1:SV.oks (F.add h) vs l':=vZ (wa hap (Res.mono hle hr)) hl (Kv hle hvs);have h2:St (F.add h) w (L.map (Res.fix F)):=(StG.fix F (F.add h)).1 hs';refine(ho _ (F.add h) w vs h1 h2).mono λe' w' ⟨G,u,he,hg,hS',hok⟩=>?_;obtain⟨B,b1,b2,b3,b4⟩:=sA hr hap hg;refine⟨B,u,he,b1,⟨h,b2,b3,?_⟩,hf _ _ _ hok⟩;rw[b4];exact StG.mono b1 ((StG.fix F G).2 hS')
theorem Mb {P:Program} {f:FuncId} {α:Type} {K:Kd α} {v:Value} {e:TypeId} {xs:List α} {l l':List SV} {C:Type} {s:C→SV} {r:C→Res} {L:List Res} (ho:∀L,OkX P f l' L s (λy=>r y::L)) (hl:BR v K xs l l') (hf:∀y,SvF (s y)) (hq:∀y F G h,(r y).holds F h→(r y).holds G h):OkX P f l (.own K v e xs::L) s (λy=> .own K v e xs::r y::L):=λF w vs hvs hS=>by obtain⟨h,hr,hap,hs'⟩:=hS;have hle:F≤F.add h:=F.le_add h;have h1:SV.oks (F.add h) vs l':=vZ (wa hap (Res.mono hle hr)) hl (Kv hle hvs);have h2:St (F.add h) w (L.map (Res.fix F)):=(StG.fix F (F.add h)).1 hs';refine(ho _ (F.add h) w vs h1 h2).mono λe' w' ⟨y,G,u,he,hg,hS',hok⟩=>?_;obtain⟨B,b1,b2,b3,b4⟩:=sA hr hap hg;obtain⟨k,k1,k2,k3⟩:=hS';refine⟨y,B,u,he,b1,⟨h,b2,b3,?_⟩,hf _ _ _ _ hok⟩;rw[b4];exact⟨k,hq y _ _ _ k1,k2,StG.mono b1 ((StG.fix F G).2 k3)⟩
theorem AB {K:Kd α}:∀{xs:List α} {cs:List Value} {h:Nat},bi K F (cs.take (xs.length*K.n)) xs→h≤xs.length→bi K F (cs.take (h*K.n)) (xs.take h)|xs,cs,0,_,_=>by rw[Jh,HK,HK];exact rfl|[],cs,h+1,_,hh=>by simp at hh|x::xs,cs,h+1,hr,hh=>by obtain⟨c,d,e,a,b⟩:=hr;have hc:=K.len a;(have e1:cs.take ((h+1)*K.n)=c++d.take (h*K.n):=by have h2:(h+1)*K.n≤(x::xs).length*K.n:=FS _ hh;(have h3:cs.take ((h+1)*K.n)=(cs.take ((x::xs).length*K.n)).take ((h+1)*K.n):=by rw[HW,GE h2]);rw[h3,e,List.take_append,hc,Gx];(have h4:h*K.n+K.n - K.n=h*K.n:=by omega);rw[h4,FZ (by omega)]);(have h5:d=d.take (xs.length*K.n):=by have h6:=congrArg List.length e;rw[FM,Ga,hc,F2,Gx] at h6;rw[FZ (by omega)]);rw[e1];exact⟨c,_,rfl,a,AB (by rw[←h5];exact b) (by simpa using hh)⟩
theorem LB {K:Kd α} {xs:List α} (hh:h≤xs.length) (k:Under F0 n E (.own K (subV v 0 h K.n) e (xs.take h)::L) X):Under F0 n E (.own K v e xs::L) X:=λF a w h0 hE hS=>k F a w h0 hE (hS.map λf hf=>by rcases hf with⟨rfl,rfl,rfl⟩|⟨g,cap,cur,rfl,rfl,h3,h4,h5,h6⟩;(have:h=0:=by simpa using hh);subst this;exact .inl ⟨rfl,rfl,rfl⟩;(have hl:(xs.take h).length=h:=by rw[Ga,GE hh]);refine .inr ⟨g,cap,cur,?_,rfl,by omega,h4,h5,by rw[hl];exact AB h6 hh⟩;rw[hl];unfold subV;simp only[Is];split<;>simp[Addr.add])
theorem L1 {L:List Res}
      (ho:∀L,OpV P n ((t,.val (kSl K) xs)::E) L ⟨some d,op,ty,pos,aft,none⟩ s) (ht:look E t=some (.raw v)) (hf:SvF s) (hd:Nat.blt d n=true)
  (k:Under F0 n ((d,s)::E) (.own K v e xs::L) (wpList P ops Q rest)):Under F0 n E (.own K v e xs::L) (wpList P ops Q (⟨some d,op,ty,pos,aft,none⟩::rest)):=
 JE rfl λF a w h0 hE hS=>by
  have hS0:=hS
  obtain⟨h,hr,hap,hs'⟩:=hS
  have hle:F≤F.add h:=F.le_add h
  have hval:=wa hap (Res.mono hle hr)
  have h2:St (F.add h) w (L.map (Res.fix F)):=(StG.fix F (F.add h)).1 hs'
  have hE':Env (F.add h) a n ((t,.val (kSl K) xs)::E):=⟨hE.defers,hE.size,λu r hl=>by
   rw[ck] at hl;split at hl
   · rename_i hk;subst hk;cases hl
     obtain⟨v',h1,h3⟩:=hE.at_ t _ ht
     simp only[SV.ok] at h3;subst h3
     exact⟨_,h1,by simp only[SV.ok];exact hval⟩
   · exact(hE.mono hle).at_ u r hl⟩
  obtain⟨u,hu,this⟩:=ho (L.map (Res.fix F)) (F.add h) a hE'
  have this:=this w ⟨F.add h,KF _,h2⟩
  have hu':=hf _ F _ hu
  unfold Oper.quietAt at this
  unfold Oper.wp
  generalize (execOp a.eval (⟨some d,op,ty,pos,aft,none⟩:Oper)).run P w=r at this
  cases r with
  |halt x w'=>exact this.elim
  |ok nx w'=>
   cases nx<;>simp only[Oper.quietUpon] at this<;>simp only[Oper.upon]
   case value u=>obtain⟨rfl,rfl⟩:=this;exact k _ _ _ h0 (hE.put hd hu') hS0
   case skip=>obtain⟨rfl,rfl⟩:=this;exact k _ _ _ h0 (hE.put hd hu') hS0
   case enter f args=>
     obtain⟨rfl,hc⟩:=this
     exact hc.mono λe w'' ⟨he,G,hg,hw⟩=>by
      subst he
      obtain⟨B,b1,b2,b3,b4⟩:=sA hr hap hg
      exact k B _ _ (Ki h0 b1) ((hE.mono b1).put hd (Kj b1 hu')) ⟨h,b2,b3,by rw[b4];exact StG.mono b1 ((StG.fix F G).2 hw)⟩
end Go.Sim
namespace Go.Sim
open Go
theorem sb {E':List (Nat×SV)} (h:E'.map (λp=>look E p.1)=E'.map (λp=>some p.2)):∀t v,look E' t=some v→look E t=some v:=by induction E' with|nil=>exact kX E|cons p E' ih=>obtain⟨k,u⟩:=p;simp only[Ge,List.cons.injEq] at h;exact aI h.1 (ih h.2)
def wb:Nat→List Res→List Res→List Res|0,_,T=>T|k+1,r::l,T=>r::wb k l T|_+1,[],T=>T
def BS:Nat→List Res→List Res|0,l=>l|k+1,_::l=>BS k l|_+1,[]=>[]
theorem qy:∀(k:Nat) (l:List Res),wb k l (BS k l)=l|0,_=>rfl|k+1,r::l=>by simp only[wb,BS,qy k l]|_+1,[]=>rfl
theorem wc:∀(k:Nat) (l:List Res) (r:Res) (T:List Res),(r::wb k l T).Perm (wb k l (r::T))|0,_,_,_=> .refl _|k+1,q::l,r,T=>(List.Perm.swap _ _ _).trans (.cons _ (wc k l r T))|_+1,[],_,_=> .refl _
section
variable {P:Program} {ops:Array Oper} {Q:Exit→Act→World→Prop} {rest:List Oper} {F0:Fz} {n:Nat} {E:List (Nat×SV)} {L:List Res}
variable {D:List Nat} {d:Nat} {op:Op} {ty:TypeId} {pos:String} {aft:Array Edge} {s:SV} {Lf:List Res→List Res} {tab:List Tok}
def Ec (G:Fz) (L:List Res) (d:Nat) (s:SV):Act→World→Prop:=λa w=>∃(H:Fz) (_:Value),G≤H∧(∃u,a.tmps[d]? =some u∧s.ok H u)∧St H w L∧a.defers=[]
def seqV (P:Program) (n:Nat) (Lf:List Res→List Res) (ops:Array Oper) (F0:Fz) (K:List (Nat×SV)→Prop):List (List Nat)→List Oper→List (Nat×SV)→Prop|us::p,o::l,E=>∃d s,o.dst=some d∧(∀G T,F0≤G→Under G n (gg us E) (Lf T) (wpList P ops (Exit.then (Ec G (Lf T) d s) QF) [o]))∧seqV P n Lf ops F0 K p l ((d,s)::E)|[],[],E=>K E|_,_,_=>False
theorem Ed (hk:∀E,K E→K' E):∀{its:List It2} {p:List (List Nat)} {l:List Oper} {E:List (Nat×SV)} {j:Nat},seqT P n tab Lf ops F0 bs K j its p l E→seqT P n tab Lf ops F0 bs K' j its p l E|[],[],[],_,_,h=>hk _ h|_::_,_::_,_::_,_,_,h=>⟨h.1,Ed hk h.2⟩|[],_::_,_,_,_,h=>by simp[seqT] at h|[],[],_::_,_,_,h=>by simp[seqT] at h|_::_,[],_,_,_,h=>by simp[seqT] at h|_::_,_::_,[],_,_,h=>by simp[seqT] at h
def plI (l:List SV):List It2:=l.map λs=>⟨sk0 s,[],[],[]⟩
theorem Ee:∀{p:List (List Nat)} {l:List Oper} {E:List (Nat×SV)},seqV P n Lf ops F0 K p l E→∃vs:List SV,∀G,F0≤G→∀bs j,seqT P n [] Lf ops G bs K j (plI vs) p l E|[],[],E,h=>⟨[],λ_ _ _ _=>h⟩|us::p,o::l,E,h=>by obtain⟨d,s,hd,h1,h2⟩:=h;obtain⟨vs,hv⟩:=Ee h2;refine⟨s::vs,λG hG bs j=>⟨λR hR G' T hG'=>?_,?_⟩⟩;simp only[ku,GA] at hR;subst hR;rw[hd];exact h1 G' T (Ki hG hG');rw[hd];exact hv G hG bs (j+1)|[],_::_,_,h=>h.elim|_::_,[],_,h=>h.elim
theorem Vq.v (h:∀G T,F0≤G→Under G n (gg us E) (Lf T) (wpList P ops (Exit.then (Ec G (Lf T) d s) QF) [⟨some d,op,ty,pos,aft,g⟩])) (k:seqV P n Lf ops F0 K p l ((d,s)::E)):seqV P n Lf ops F0 K (us::p) (⟨some d,op,ty,pos,aft,g⟩::l) E:=⟨d,s,rfl,h,k⟩
def Jy:=@Vq.v
theorem Jp (hd:look E d=some s):Under F0 n E L (wpList P ops (Exit.then (Ec F0 L d s) QF) []):=λF a w h0 hE hS=>⟨F,undef,h0,hE.at_ d _ hd,hS,hE.defers⟩
theorem vo (h:∀L,OpV P n (gg us E) L ⟨some d,op,ty,pos,aft,none⟩ s) (hd:Nat.blt d n=true) (k:seqV P n Lf ops F0 K p l ((d,s)::E)):seqV P n Lf ops F0 K (us::p) (⟨some d,op,ty,pos,aft,none⟩::l) E:=Jy (λG T _=>J4 (h _) hd (Jp (by simp[look]))) k
theorem vm (h:ev (gg us E) x=some s) (hd:Nat.blt d n=true) (k:seqV P n Lf ops F0 K p l ((d,s)::E)):seqV P n Lf ops F0 K (us::p) (⟨some d,.move x,ty,pos,aft,none⟩::l) E:=vo (λ_=>OpV.move h) hd k
theorem vb (hX:ev (gg us E) X=some (.raw (.int i x))) (hY:ev (gg us E) Y=some (.raw (.int i y))) (hv:binI b i x y=some v) (hd:Nat.blt d n=true) (k:seqV P n Lf ops F0 K p l ((d,.raw v)::E)):seqV P n Lf ops F0 K (us::p) (⟨some d,.binOp b t X Y u,ty,pos,aft,none⟩::l) E:=vo (λ_=>LV hX hY hv) hd k
theorem vn (h:Under F0 n E L (mO P Q l D)):seqV P n Lf ops F0 (λE'=>Under F0 n E' L (mO P Q l D)) [] [] E:=h
theorem BU:∀(vs:List SV) (j:Nat),tabF (plI vs) j=[]|[],_=>rfl|s::vs,j=>by simp only[plI,Ge,tabF,Hl,F8];exact BU vs (j+1)
theorem rz:∀vs:List SV,lG (plI vs)=[]|[]=>rfl|s::vs=>by have:=rz vs;simp only[lG,plI,Ge,GC,F8] at*;exact this
theorem AC (l:List Oper) (g:List Nat) (full:List It2) (hf:lG full=[]):∀(vs:List SV) (j:Nat),vR l g [] full (plI vs) j=true|[],_=>rfl|s::vs,j=>by have ih:=AC l g full hf vs (j+1);simp only[plI,Ge,vR] at ih⊢;rw[ih];simp[itB,sk0]
theorem Mk {l:List Oper} (g:List Nat) (p:List (List Nat)) (k:Nat) (hB:tP l D g p=true) (hn:(pick l g).all (λo=>match o.dst with|some d=>Nat.blt d n|none=>true)=true) (h:seqV P n (wb k L) l.toArray F0 (λE'=>Under F0 n E' L (mO P Q l (g++D))) p (pick l g) E):Under F0 n E L (mO P Q l D):=by obtain⟨vs,hv⟩:=Ee h;(have e1:tabT [] (plI vs)=[]:=by simp only[tabT,Hl,F8];exact BU vs 0);refine JL (L0:=L) (L:=BS k L) g p (plI vs) [] (wb k L) (wc k L) (qy k L) hB ?_ hn (λF hF bs=>?_);simp only[tokB,e1,rz,AC l g _ (rz vs) vs 0];rfl;rw[e1,rz];refine Ed (λE' hk=>?_) (hv F hF bs 0);simp only[finT,F8,qy];exact JS hF hk
theorem afr {x:Code} (e:R→List (Nat×SV)) (l:R→List Res) (hk:Under F0 n (e r) (l r) K) (h:∀K',(∀x,r=x→Under F0 n (e x) (l x) K')→Under F0 n E L (x.wp P (Exit.then K' Q))):Under F0 n E L (x.wp P (Exit.then K Q)):=h K λx hx=>hx▸hk
theorem lp [Fu] {S R C:Type} {step:S→Option (Ctl S R)} {x0:S} {r:R} {c:Code} (hrun:Loop.run step x0=some r) (c0:C) (Es:S→C→List (Nat×SV)) (Ls:S→C→List Res) (hE:(Es x0 c0).map (λp=>look E p.1)=(Es x0 c0).map (λp=>some p.2)) (hL:L=Ls x0 c0) (round:∀x y o,step x=some o→(∀q,o= .done q→q=r)→Under F0 n (Es x y) (Ls x y) (c.wp P (Exit.then (λa w=>∃x' y' F,o= .next x'∧F0≤F∧Env F a n (Es x' y')∧St F w (Ls x' y')) Q))):Under F0 n E L ((Code.loop c).wp P Q):=Under.loop c0 Es Ls hrun (sb hE) hL round
theorem nx {S R C:Type} {o:Ctl S R} {Es:S→C→List (Nat×SV)} {Ls:S→C→List Res} {x':S} (y':C) (ho:(some (Ctl.next x'):Option (Ctl S R))=some o) (hE:(Es x' y').map (λp=>look E p.1)=(Es x' y').map (λp=>some p.2)) (hL:L=Ls x' y'):Under F0 n E L (λa w=>∃x' y' F,o= .next x'∧F0≤F∧Env F a n (Es x' y')∧St F w (Ls x' y')):=Under.next x' y' ho (sb hE) hL
theorem wr {E':List (Nat×SV)} (k:Under F0 n E' L X) (hs:E'.map (λp=>look E p.1)=E'.map (λp=>some p.2)):Under F0 n E L X:=Me k (sb hs)
theorem okI {fn:Func} {c:Code} {args:List SV} (m:Nat) (hf:P.funcs[f]? =some fn) (hb:fn.body=some c) (hn:fn.ntmps=m) (hl:Nat.ble args.length m=true) (k:∀F0,Under F0 m (argE 0 args) L (c.wp P (bodyPost P fn λe w'=>∃G v,e= .returned v∧F0≤G∧St G w' L'∧s.ok G v))):Ok P f args L s L':=Ok.intro m _ hf hb hn hl rfl k
end
abbrev sP:=@MG
abbrev lP:=@MF
abbrev rI:=@Mc
abbrev ca:=@Under.call
abbrev it:=@Mu
abbrev al:=@MM
abbrev fz:=@Mw
abbrev fzO:=@Mg
abbrev f1:=@LJ
abbrev f2:=@LK
abbrev f3:=@LL
abbrev f4:=@LM
abbrev ap:=@Under.app
abbrev tV:=@MD
abbrev bO:=@My
abbrev bF:=@Mx
abbrev bX:=@Mv
abbrev pn:=@MT
abbrev p1:=@MS
abbrev pd:=@L8
abbrev ph:=@LX
abbrev gV:=@Mk
abbrev rs:=@Lw
abbrev pb (b:Nat):SV:= .raw (.pointer (some ⟨b,0,none⟩))
abbrev i64 (x:Int):SV:= .raw (.int .i64 x)
theorem bs {α β:Type} {x:Option α} {f:α→Option β} {r:β} {G:Prop} (h:x.bind f=some r) (k:∀a,x=some a→f a=some r→G):G:=let ⟨a,b,c⟩:=bsome h;k a b c
theorem gs {c:Bool} {α:Type} {x:Option α} {r:α} {G:Prop} (h:(bif c then x else none)=some r) (k:c=true→x=some r→G):G:=let ⟨a,b⟩:=gsome h;k a b
section
variable {P:Program} {ops:Array Oper} {Q:Exit→Act→World→Prop} {rest:List Oper} {F0:Fz} {n:Nat} {E:List (Nat×SV)} {L:List Res}
variable {d e:Nat} {op:Op} {ty ty':TypeId} {pos pos':String} {aft aft':Array Edge} {s:SV}
theorem m_ (h:(ev E x,Nat.blt d n)=(some s,true)) (k:Under F0 n ((d,s)::E) L (wpList P ops Q rest)):Under F0 n E L (wpList P ops Q (⟨some d,.move x,ty,pos,aft,none⟩::rest)):=mv (Prod.mk.inj h).1 (Prod.mk.inj h).2 k
theorem a_ (h:(ev E x,Nat.blt d n)=(some s,true)) (k:Under F0 n ((d,s)::E) L (wpList P ops Q rest)):Under F0 n E L (wpList P ops Q (⟨some d,.assign x,ty,pos,aft,none⟩::rest)):=ag (Prod.mk.inj h).1 (Prod.mk.inj h).2 k
theorem b_ (h:(ev E X,ev E Y,binI b i x y,Nat.blt d n)=(some (.raw (.int i x)),some (.raw (.int i y)),some v,true)) (k:Under F0 n ((d,.raw v)::E) L (wpList P ops Q rest)):Under F0 n E L (wpList P ops Q (⟨some d,.binOp b t X Y u,ty,pos,aft,none⟩::rest)):=by simp only[Prod.mk.injEq] at h;exact bn h.1 h.2.1 h.2.2.1 h.2.2.2 k
theorem mb (h:(ev E x,Nat.blt d n,ev ((d,s)::E) X,ev ((d,s)::E) Y,binI b i p q,Nat.blt e n)=(some s,true,some (.raw (.int i p)),some (.raw (.int i q)),some v,true)) (k:Under F0 n ((e,.raw v)::(d,s)::E) L (wpList P ops Q rest)):Under F0 n E L (wpList P ops Q (⟨some d,.move x,ty,pos,aft,none⟩::⟨some e,.binOp b t X Y u,ty',pos',aft',none⟩::rest)):=by simp only[Prod.mk.injEq] at h;exact mv h.1 h.2.1 (bn h.2.2.1 h.2.2.2.1 h.2.2.2.2.1 h.2.2.2.2.2 k)
theorem oL (hT:KT P T K) (h:(ev E X,Nat.blt d n)=(some (.ptr K x),true)) (k:Under F0 n ((d,.val K x)::E) L (wpList P ops Q rest)):Under F0 n E L (wpList P ops Q (⟨some d,.load T X,ty,pos,aft,none⟩::rest)):=J4 (JH hT (Prod.mk.inj h).1) (Prod.mk.inj h).2 k
theorem oI (hT:KT P T (kInt i)) (h:(ev E X,Nat.blt d n)=(some (.ptr (kInt i) x),true)) (k:Under F0 n ((d,.raw (.int i x))::E) L (wpList P ops Q rest)):Under F0 n E L (wpList P ops Q (⟨some d,.load T X,ty,pos,aft,none⟩::rest)):=J4 (JC hT (Prod.mk.inj h).1) (Prod.mk.inj h).2 k
theorem oE (h:(ev E X,l[i]?,Nat.blt d n)=(some (.tup l),some s,true)) (k:Under F0 n ((d,s)::E) L (wpList P ops Q rest)):Under F0 n E L (wpList P ops Q (⟨some d,.extract X i,ty,pos,aft,none⟩::rest)):=by simp only[Prod.mk.injEq] at h;exact J4 (KA h.1 h.2.1) h.2.2 k
theorem oN {xs:List α} (ht:P.underlying t=some (.slice e)) (h:(ev E X,Nat.blt d n)=(some (.val (kSl K) xs),true)) (k:Under F0 n ((d,.raw (.int .i64 xs.length))::E) L (wpList P ops Q rest)):Under F0 n E L (wpList P ops Q (⟨some d,.call ⟨.builtin .len,#[X],#[t]⟩,ty,pos,aft,none⟩::rest)):=J4 (Kn ht (Prod.mk.inj h).1 rdV) (Prod.mk.inj h).2 k
theorem oF {f:Fld β} (hT:fldB P T i=some (offF fs i,m+1)) (h:(ev E X,fs[i]?,Nat.blt d n)=(some (.ptr (kSt fs) x),some f,true)) (k:Under F0 n ((d,.ptr f.K (f.get x))::E) L (wpList P ops Q rest)):Under F0 n E L (wpList P ops Q (⟨some d,.fieldAddr T X i,ty,pos,aft,none⟩::rest)):=by simp only[Prod.mk.injEq] at h;exact J4 (JR hT h.2.1 h.1) h.2.2 k
theorem oM (hT:fldB P T i=some (o,m+1)) (h:(ev E X,Nat.blt d n)=(some (.raw (.pointer (some ⟨b,off,none⟩))),true)) (k:Under F0 n ((d,.raw (.pointer (some ⟨b,off+o,none⟩)))::E) L (wpList P ops Q rest)):Under F0 n E L (wpList P ops Q (⟨some d,.fieldAddr T X i,ty,pos,aft,none⟩::rest)):=J4 (J3 hT (Prod.mk.inj h).1) (Prod.mk.inj h).2 k
theorem oX {K:Kd α} {i:Int} (hb:Blk1 r R b K0 x) (p:At K0 x off (kArr m K) xs up) (hi:idx xs i=some z) (hT:P.underlying T=some (.array m e)) (hs:(P.info? e).map (·.size)=some K.n) (h:(ev E X,ev E I,Nat.blt d n)=(some (.raw (.pointer (some ⟨b,off,none⟩))),some (.raw (.int q i)),true)) (k:Under F0 n ((d,.raw (.pointer (some ⟨b,off+i.toNat*K.n,none⟩)))::E) (r::L) (wpList P ops Q rest)):Under F0 n E (r::L) (wpList P ops Q (⟨some d,.indexAddr T X I,ty,pos,aft,none⟩::rest)):=by simp only[Prod.mk.injEq] at h;exact J4 (MY hb p hi hT hs h.1 h.2.1) h.2.2 k
theorem oS {K:Kd α} (hx:idx xs i=some x) (hT:P.underlying T=some (.slice e)) (hs:(P.info? e).map (·.size)=some K.n) (h:(ev E X,ev E I,Nat.blt d n)=(some (.val (kSl K) xs),some (.raw (.int q i)),true)) (k:Under F0 n ((d,.ptr K x)::E) L (wpList P ops Q rest)):Under F0 n E L (wpList P ops Q (⟨some d,.indexAddr T X I,ty,pos,aft,none⟩::rest)):=by simp only[Prod.mk.injEq] at h;exact J4 (JN hx hT hs h.1 rdV h.2.1) h.2.2 k
theorem oC {i:IntKind} (hs:(P.underlying q).isSome=true) (ht:P.underlying t=some (.int i)) (h:(ev E X,Nat.blt d n)=(some (.raw (.int j x)),true)) (k:Under F0 n ((d,.raw (.int i (i.wrap x)))::E) L (wpList P ops Q rest)):Under F0 n E L (wpList P ops Q (⟨some d,.convert q t X,ty,pos,aft,none⟩::rest)):=J4 (J6 hs ht (Prod.mk.inj h).1) (Prod.mk.inj h).2 k
theorem cx {xs:List Operand} (hc:∀args w,(callFunc f args).run P w= .ok (.enter f args) w) (h:(ev E X,evs E xs,Nat.blt d n)=(some (.raw (.func (.func f) #[] #[])),some l,true)) (ho:Ok P f l L s L') (k:Under F0 n ((d,s)::E) L' (wpList P ops Q rest)):Under F0 n E L (wpList P ops Q (⟨some d,.call ⟨.value X,xs.toArray,tys⟩,ty,pos,aft,none⟩::rest)):=by simp only[Prod.mk.injEq] at h;exact Under.call hc h.1 h.2.1 ho h.2.2 k
theorem gc_ (hc:c=b) (h:((ops[j]?).bind (·.dst),look E g)=(some g,some (.raw (.bool c)))) (k:Under F0 n E L (wpList P ops Q (⟨o,op,ty,pos,aft,none⟩::rest))):Under F0 n E L (wpList P ops Q (⟨o,op,ty,pos,aft,some (j,b)⟩::rest)):=gc hc (Prod.mk.inj h).1 (Prod.mk.inj h).2 k
theorem sk_ (hc:c= !b) (h:((ops[j]?).bind (·.dst),look E g,Nat.blt u n)=(some g,some (.raw (.bool c)),true)) (k:Under F0 n ((u,.raw undef)::E) L (wpList P ops Q rest)):Under F0 n E L (wpList P ops Q (⟨some u,op,ty,pos,aft,some (j,b)⟩::rest)):=by simp only[Prod.mk.injEq] at h;exact sk hc h.1 h.2.1 h.2.2 k
theorem pT (hc:c=true) (h:(ev E x,ev E y,Nat.blt d n)=(some (.raw (.bool c)),some s,true)) (k:Under F0 n ((d,s)::E) L (wpList P ops Q rest)):Under F0 n E L (wpList P ops Q (⟨some d,.pick x y z,ty,pos,aft,none⟩::rest)):=by simp only[Prod.mk.injEq] at h;exact J4 (pkT hc h.1 h.2.1) h.2.2 k
theorem pF (hc:c=false) (h:(ev E x,ev E z,Nat.blt d n)=(some (.raw (.bool c)),some s,true)) (k:Under F0 n ((d,s)::E) L (wpList P ops Q rest)):Under F0 n E L (wpList P ops Q (⟨some d,.pick x y z,ty,pos,aft,none⟩::rest)):=by simp only[Prod.mk.injEq] at h;exact J4 (pkF hc h.1 h.2.1) h.2.2 k
theorem vm_ (h:(ev (gg us E) x,Nat.blt d n)=(some s,true)) (k:seqV P n Lf ops F0 K p l ((d,s)::E)):seqV P n Lf ops F0 K (us::p) (⟨some d,.move x,ty,pos,aft,none⟩::l) E:=vm (Prod.mk.inj h).1 (Prod.mk.inj h).2 k
theorem vb_ (h:(ev (gg us E) X,ev (gg us E) Y,binI b i x y,Nat.blt d n)=(some (.raw (.int i x)),some (.raw (.int i y)),some v,true)) (k:seqV P n Lf ops F0 K p l ((d,.raw v)::E)):seqV P n Lf ops F0 K (us::p) (⟨some d,.binOp b t X Y u,ty,pos,aft,none⟩::l) E:=by simp only[Prod.mk.injEq] at h;exact vb h.1 h.2.1 h.2.2.1 h.2.2.2 k
end
end Go.Sim
namespace Go.Sim
open Go
section
variable {P:Program} {ops:Array Oper} {Q:Exit→Act→World→Prop} {rest:List Oper} {F0:Fz} {n:Nat} {E:List (Nat×SV)} {L:List Res}
variable {d:Nat} {op:Op} {ty:TypeId} {pos:String} {aft:Array Edge} {s:SV}
theorem AD (F:Fz):∀bs:List UInt8,bi (kInt .u8) F (bs.map λb=>Value.int .u8 b.toNat) (bs.map λb=>(b.toNat:Int))|[]=>rfl|b::bs=>⟨[.int .u8 b.toNat],_,rfl,rfl,AD F bs⟩
theorem MK (hT:(P.underlying T).isSome=true) (hU:P.underlying U=some (.slice e)) (he:P.underlying e=some (.int .u8)) (hX:ev E X=some s) (hr:rdOf s kStr xs) (hd:Nat.blt d n=true)
  (k:Under F0 n ((d,.val (kSl (kInt .u8)) xs)::E) L (wpList P ops Q rest)):Under F0 n E L (wpList P ops Q (⟨some d,.convert T U X,ty,pos,aft,none⟩::rest)):=
 JE rfl λF a w h0 hE hS=>by
  obtain⟨s1,e1,rfl⟩:=nY (hr F _ (hE.eval hX))
  obtain⟨ds,hds⟩:=Option.isSome_iff_exists.1 hT
  have hrun:=Lib.run_convert_string_bytes (P:=P) w T U e s1 hds hU he
  let o:Obj:= .cells (Lib.bytesCells w e s1) e ((Lib.bytesCells w e s1).size,(Lib.bytesCells w e s1).size+1)
  have hc:Chg w (Lib.bytesWorld w e s1) Frag.emp:=⟨rfl,rfl,rfl,λb hb _=>Lib.bytesWorld_at_old w e s1 b hb⟩
  obtain⟨hle,hS'⟩:=Lp hS (Frag.one w.heap.size o) hc (λb hb=>by
    by_cases h:b=w.heap.size
    · omega
    · exact absurd (JZ o h) hb) (λb q hq=>by
    obtain⟨rfl,rfl⟩:=JT hq
    exact Lib.bytesWorld_at_new w e s1)
  have hb:(F.add (Frag.one w.heap.size o)).blk w.heap.size=some o:=by
    simp only[Fz.add,StG.fresh hS _ (F9 _)]
    exact Ju _ _
  unfold Oper.wp
  simp only[execOp,e1,FV,hrun,FQ,F3,Oper.upon]
  refine k _ _ _ (Ki h0 hle) ((hE.mono hle).put hd ?_) hS'
  simp only[SV.ok]
  have hcap:=grownCap_ge w s1.size 0 e
  have hl:(s1.data.toList.map λb=>(b.toNat:Int)).length=s1.size:=by simp
  refine⟨[.slice (some ⟨w.heap.size,0,none⟩) s1.size (grownCap w s1.size 0 e)],⟨some ⟨w.heap.size,0,none⟩,grownCap w s1.size 0 e,by rw[hl],by rw[hl];exact hcap,.inr ⟨_,Lib.bytesCells w e s1,e,_,rfl,rfl,hb,?_,?_⟩⟩,rfl⟩
  · have hsz:s1.data.size=s1.size:=rfl
    simp only[hl,kInt,Lib.bytesCells,Array.size_append,Array.size_map,Array.size_replicate];omega
  · have hsz:s1.data.size=s1.size:=rfl
    have:((Lib.bytesCells w e s1).toList.drop 0).take ((s1.data.toList.map λb=>(b.toNat:Int)).length*(kInt .u8).n)=s1.data.toList.map λb=>Value.int .u8 b.toNat:=by
      rw[hl]
      simp only[kInt,Jm,G9,Lib.bytesCells,Jb,Array.toList_map]
      rw[List.take_left']
      simp
    show bi _ _ (List.take _ (List.drop 0 _)) _
    rw[this]
    exact AD _ _
end
end Go.Sim
namespace Go.Sim
open Go
section
variable {P:Program} {ops:Array Oper} {Q:Exit→Act→World→Prop} {rest:List Oper} {F0:Fz} {n:Nat} {E:List (Nat×SV)} {L:List Res}
variable {τ:Type} {KT:Kd τ} {TE TT:TypeId} {v:Value}
abbrev Ef (KT:Kd τ) (TE TT:TypeId) (v:Value) (xs:List (List τ)):Res:=nh kRaw KT (λ(_:List τ) (q:Value)=>q) (λx:List τ=>x) TE TT v xs
theorem tQ:∀{xs:List (List τ)} {qs:List Value},qs.length=xs.length→List.zipWith (λ(_:List τ) (q:Value)=>q) xs qs=qs|[],[],_=>rfl|x::xs,q::qs,h=>by rw[List.zipWith_cons_cons,tQ (by simpa using h)]|[],_::_,h=>by simp at h|_::_,[],h=>by simp at h
theorem MW (hs:St F w L):St F w (.own KT (.slice none 0 0) TT []::L):=by refine⟨Frag.emp,.inl ⟨rfl,rfl,rfl⟩,λb hb=>absurd rfl hb,?_⟩;rw[Kq];exact hs
theorem LU (hs:St F w L):∀m,St F w (owns KT (λx:List τ=>x) TT (List.replicate m []) (List.replicate m (.slice none 0 0))++L)|0=>hs|m+1=>by have:=LU hs m;rw[GU,GU];exact MW (KT:=KT) (TT:=TT) this
theorem LG (k:Under F0 n E (Ef KT TE TT v (List.replicate m [])::L) X):Under F0 n E (.own kRaw v TE (List.replicate m (.slice none 0 0))::L) X:=λF a w h0 hE hS=>by refine k F a w h0 hE (Km (qs:=List.replicate m (.slice none 0 0)) (by simp) ?_);rw[tQ (by simp)];exact(LU (KT:=KT) (TT:=TT) hS m).perm HV
theorem LH {xs:List (List τ)} {i:Int} (hT:Free KT) (hi:idx xs i=some x) (k:∀(q:Value) (ys:List Value) (Rs:List Res),ys.length=xs.length→idx ys i=some q→(∀x' q' F w L',St F w (.own kRaw v TE (List.set ys i.toNat q'):: .own KT q' TT x'::(Rs++L'))→St F w (Ef KT TE TT v (List.set xs i.toNat x')::L'))→Under F0 n E (.own kRaw v TE ys:: .own KT q TT x::(Rs++L)) X):Under F0 n E (Ef KT TE TT v xs::L) X:=λF a w h0 hE hS=>by obtain⟨qs,hl,hS2⟩:=hS.manyOpen Free.raw hT;rw[tQ hl] at hS2;obtain⟨h1,h2,h3⟩:=iU hi;have hlt:i.toNat<xs.length:=(FN.1 h3).1;(have hltq:i.toNat<qs.length:=by omega);have hx:xs[i.toNat]=x:=(FN.1 h3).2;(have spl:∀x' q',owns KT (λx:List τ=>x) TT (xs.set i.toNat x') (qs.set i.toNat q')=owns KT (λx:List τ=>x) TT (xs.take i.toNat) (qs.take i.toNat)++.own KT q' TT x'::owns KT (λx:List τ=>x) TT (xs.drop (i.toNat+1)) (qs.drop (i.toNat+1)):=λx' q'=>by unfold owns;rw[Hi,Gz hlt,Hi,Gz hltq];rw[List.zipWith_append (by simp;omega)];rfl);(have self:xs.set i.toNat x=xs:=by rw[←hx];simp);(have selfq:qs.set i.toNat qs[i.toNat]=qs:=by simp);have spl0:=spl x qs[i.toNat];rw[self,selfq] at spl0;rw[spl0] at hS2;refine k qs[i.toNat] qs (owns KT (λx:List τ=>x) TT (xs.take i.toNat) (qs.take i.toNat)++owns KT (λx:List τ=>x) TT (xs.drop (i.toNat+1)) (qs.drop (i.toNat+1))) hl ?_ (λx' q' F w L' h=>?_) F a w h0 hE (hS2.perm ?_);unfold idx;rw[Gz h1];simp[hltq];refine Km (qs:=qs.set i.toNat q') (by simp[hl]) ?_;rw[tQ (by simp[hl]),spl x' q'];refine h.perm (List.Perm.cons _ ?_);simp only[F6,G5];exact HV.symm;refine List.Perm.cons _ ?_;simp only[F6,G5];exact HV
end
end Go.Sim
namespace Go.Sim
open Go
section
variable {P:Program} {ops:Array Oper} {Q:Exit→Act→World→Prop} {rest:List Oper} {F0:Fz} {n:Nat} {E:List (Nat×SV)} {L:List Res}
variable {d:Nat} {op:Op} {ty:TypeId} {pos:String} {aft:Array Edge} {s:SV}
end
end Go.Sim
namespace Go.Sim
open Go
section
variable {P:Program} {ops:Array Oper} {Q:Exit→Act→World→Prop} {rest:List Oper} {F0:Fz} {n:Nat} {E:List (Nat×SV)} {L:List Res}
variable {d:Nat} {op:Op} {ty:TypeId} {pos:String} {aft:Array Edge} {s:SV}
end
end Go.Sim
namespace Go.Sim
open Go
theorem kr (h:a=b:=by kernel_rfl):a=b:=h
theorem kq {P:Program} {K:Kd α} (h1:(P.info? T).map (·.size)=some K.n:=by kernel_rfl) (h2:aggB P T=some K.agg:=by kernel_rfl):KT P T K:=⟨h1,h2⟩
theorem uq {γ:Type} {fs:List (Fld γ)} {i:Nat} {f:Fld γ} {s1:γ→f.α→γ} (h1:fs[i]? =some f:=by exact rfl) (h2:∀x y,f.get (s1 x y)=y:=by exact λ_ _=>rfl) (h3:∀x y,butF x (s1 x y) fs i:=by exact λ_ _=>by simp[butF]):UpF fs i f s1:=⟨h1,h2,h3⟩
class ZK {α:Type} (K:Kd α) (z:outParam α) where
 cs:List Value
 rd:∀F,K.rd F cs z
instance (k:IntKind):ZK (kInt k) 0:=⟨[.int k 0],λ_=>rfl⟩
instance:ZK mN false:=⟨[.bool false],λ_=>rfl⟩
instance:ZK kStr []:=⟨[.string ByteArray.empty],λ_=>⟨_,rfl,rfl⟩⟩
instance {α:Type} (K:Kd α):ZK (kSl K) []:=⟨[.slice none 0 0],λ_=>⟨none,0,rfl,F9 _,.inl rfl⟩⟩
instance {α β:Type} (K:Kd α) (V:Kd β):ZK (kMap K V) []:=⟨[.map none],λ_=> .inl ⟨rfl,rfl⟩⟩
instance:ZK kRaw (.slice none 0 0):=⟨[.slice none 0 0],λ_=>⟨rfl,rfl⟩⟩
instance {α:Type} (m:Nat) (K:Kd α) (z:α) [h:ZK K z]:ZK (kArr m K) (List.replicate m z):=⟨(List.replicate m h.cs).flatten,λF=>⟨by simp,nb (h.rd F) m⟩⟩
class ZF {β:Type} (fs:List (Fld β)) (z:β) where
 cs:List Value
 rd:∀F,rdF F fs cs z
instance {β:Type} (z:β):ZF [] z:=⟨[],λ_=>rfl⟩
instance {β γ:Type} (K:Kd γ) (g:β→γ) (fs:List (Fld β)) (z:β) [h:ZK K (g z)] [k:ZF fs z]:ZF (⟨K,g⟩::fs) z:=⟨h.cs++k.cs,λF=>⟨h.cs,k.cs,rfl,h.rd F,k.rd F⟩⟩
@[reducible] def zs {β:Type} {fs:List (Fld β)} {z:β} [h:ZF fs z]:ZK (kSt fs) z:=⟨h.cs,h.rd⟩
def mw (P:Program) (T:TypeId):Option (Nat×Nat×List Value):=(P.info? T).bind λi=>i.zero.map λv=>(i.size,i.bytes,v.cells.toList)
theorem nm {P:Program} {T:TypeId} {m b:Nat} {cs:List Value} (h:mw P T=some (m,b,cs)):∃ie zv,P.info? T=some ie∧ie.zero=some zv∧ie.size=m∧ie.bytes=b∧zv.cells.toList=cs:=by obtain⟨i,h1,h2⟩:=Gw.1 h;obtain⟨v,h3,h4⟩:=Gs.1 h2;cases h4;exact⟨i,v,h1,h3,rfl,rfl,rfl⟩
theorem zq {α:Type} {P:Program} {T:TypeId} {K:Kd α} {z:α} [h:ZK K z] (e:(mw P T).map (·.2.2)=some h.cs:=by kernel_rfl):ZT P T K z:=by
 obtain⟨⟨m,b,ds⟩,h1,h2⟩:=Gs.1 e
 simp only at h2;subst h2
 obtain⟨i,v,a1,a2,a3,a4,a5⟩:=nm h1
 exact⟨v,by rw[a1];exact a2,λF=>a5▸h.rd F⟩
theorem eq_q {α:Type} {P:Program} {T:TypeId} {K:Kd α} {z:α} [h:ZK K z] (e:(mw P T).map (λx=>(x.1,Nat.blt 0 x.1,x.2.2))=some (K.n,true,h.cs):=by kernel_rfl):ET P T K z:=by
 obtain⟨⟨m,b,ds⟩,h1,h2⟩:=Gs.1 e
 simp only[Prod.mk.injEq] at h2;obtain⟨rfl,h3,rfl⟩:=h2
 obtain⟨i,v,a1,a2,a3,a4,a5⟩:=nm h1
 exact⟨i,v,a1,a2,a3,by simpa[Hp] using h3,λF=>a5▸h.rd F⟩
theorem aq {α:Type} {P:Program} {T:TypeId} {K:Kd α} {z:α} [h:ZK K z] {b:Nat} (e:(mw P T).map (λx=>(x,Nat.blt 0 x.1,Nat.ble x.2.1 4096))=some ((K.n,b,h.cs),true,true):=by kernel_rfl):AT P T K z b:=by obtain⟨⟨m,b,ds⟩,h1,h2⟩:=Gs.1 e;simp only[Prod.mk.injEq] at h2;obtain⟨⟨rfl,rfl,rfl⟩,h3,h4⟩:=h2;obtain⟨i,v,a1,a2,a3,a4,a5⟩:=nm h1;exact⟨i,v,a1,a2,a3,a4,by simpa[Hp] using h3,Hb h4,λF=>a5▸h.rd F⟩
def plcF {β:Type}:Nat→List (Fld β)→List (Nat×Nat)|_,[]=>[]|o,f::fs=>(o,f.K.n)::plcF (o+f.K.n) fs
theorem AE:∀(fs:List (Fld β)) (o i:Nat) (f:Fld β),fs[i]? =some f→(plcF o fs)[i]? =some (o+offF fs i,f.K.n)|[],_,_,_,h=>by cases h|g::fs,o,0,f,h=>by cases h;rfl|g::fs,o,i+1,f,h=>by have:=AE fs (o+g.K.n) i f h;simp only[plcF,List.getElem?_cons_succ,this,offF,Jo]
def plcP (P:Program) (T:TypeId):Option (List (Nat×Nat)):=match P.underlying T with|some (.struct ff)=>ff.toList.mapM (λf=>(P.info? f.type).map λi=>(f.offset,i.size))|_=>none
theorem bq {β:Type} {P:Program} {T:TypeId} {fs:List (Fld β)} {z:β} [h:ZF fs z] (e:((mw P T).map (·.2.2),plcP P T)=(some h.cs,some (plcF 0 fs)):=by kernel_rfl):BT P T fs z:=by
 simp only[Prod.mk.injEq] at e;obtain⟨e,e2⟩:=e
 obtain⟨⟨m,b,ds⟩,h1,h2⟩:=Gs.1 e
 simp only at h2;subst h2
 obtain⟨i,v,a1,a2,a3,a4,a5⟩:=nm h1
 unfold plcP at e2
 split at e2
 · rename_i ff hu
   refine⟨i,v,ff,_,a1,a2,hu,e2,λj f hj=>?_,λF=>a5▸h.rd F⟩
   have:=AE fs 0 j f hj
   simpa using this
 · cases e2
def arrP (P:Program) (T:TypeId):Option (Nat×Nat):=match P.underlying T with|some (.array m e)=>(P.info? e).map λi=>(m,i.size)|_=>none
theorem baq {α:Type} {P:Program} {T:TypeId} {m:Nat} {K:Kd α} {z:α} [h:ZK K z] (e:((mw P T).map (·.2.2),arrP P T)=(some (List.replicate m h.cs).flatten,some (m,K.n)):=by kernel_rfl):BTA P T m K (List.replicate m z):=by simp only[Prod.mk.injEq] at e;obtain⟨e,e2⟩:=e;obtain⟨⟨k,b,ds⟩,h1,h2⟩:=Gs.1 e;simp only at h2;subst h2;obtain⟨i,v,a1,a2,a3,a4,a5⟩:=nm h1;unfold arrP at e2;split at e2;rename_i k e' hu;obtain⟨ie,b1,b2⟩:=Gs.1 e2;simp only[Prod.mk.injEq] at b2;obtain⟨rfl,b2⟩:=b2;exact⟨i,v,e',ie,a1,a2,hu,b1,b2,by simp,λF=>by rw[a5];exact nb (h.rd F) _⟩;cases e2
theorem bc {i:Nat} {x x' y:β} {f:Fld β} (hf:fs[i]? =some f) (hX:ev E X=some s) (hr:rdOf s f.K (f.get x')) (r:Bld E fs ps x' y) (hb:butF x x' fs i:=by simp[butF]):Bld E fs ((i,X)::ps) x y:= .cons hf hX hr hb r
abbrev j1:=@LJ
abbrev j2:=@LK
abbrev j3:=@LL
abbrev j4:=@LM
def lkR (E:List (Nat×SV)):List ResultVar→Option (List SV)|[]=>some []| .tmp u::l=>(match look E u,lkR E l with|some s,some ss=>some (s::ss)|_,_=>none)|_=>none
theorem yx:∀{l:List ResultVar} {ss:List SV},lkR E l=some ss→RetV P E l ss|[],_,h=>by cases h;exact .nil| .tmp u::l,ss,h=>by simp only[lkR] at h;split at h;rename_i s t h1 h2;cases h;exact .tm h1 (yx h2);cases h| .cell _ _::_,_,h=>by cases h
section
variable {P:Program} {F0:Fz} {n:Nat} {E:List (Nat×SV)} {L:List Res} {s:SV}
theorem rq {fn:Func} {l:List ResultVar} (hr:fn.results=l.toArray) (h:lkR E l=some ss) (he:lk ss=s) (hL:L=L'):Under F0 n E L (bodyPost P fn (λe w'=>∃G v,e= .returned v∧F0≤G∧St G w' L'∧s.ok G v) .ret):=Lw hr (yx h) he hL
theorem rX {fn:Func} {l:List ResultVar} {ss:List SV} {C:Type} {s:C→SV} {L':C→List Res} (y:C) (hr:fn.results=l.toArray) (h:lkR E l=some ss) (he:lk ss=s y) (hL:L=L' y):Under F0 n E L (bodyPost P fn (λe w'=>∃y G v,e= .returned v∧F0≤G∧St G w' (L' y)∧(s y).ok G v) .ret):=L9 y hr (yx h) he hL
end
def litI (E:List (Nat×SV)) (k:IntKind):List (Nat×Operand)→List Int→Option (List Int)|[],xs=>some xs|(i,X)::ps,xs=>match ev E X,Nat.blt i xs.length with|some (.raw (.int k' y)),true=>if k'=k then litI E k ps (xs.set i y) else none|_,_=>none
theorem bI:∀{ps:List (Nat×Operand)} {xs ys:List Int},litI E k ps xs=some ys→BldA E (kInt k) ps xs ys|[],xs,ys,h=>by cases h;exact .nil _|(i,X)::ps,xs,ys,h=>by simp only[litI] at h;split at h;rename_i k' y h1 h2;split at h;rename_i hk;subst hk;exact .cons h2 h1 rdI (bI h);cases h;cases h
end Go.Sim
