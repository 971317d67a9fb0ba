import Derived.Test.YtlkjdchmeihhkaaGreatDoorSimC
import Derived.Scope
import Derived.Lib.ConvBytes
import Derived.Laws.AppendOwn
set_option linter.all false
set_option autoImplicit true
set_option relaxedAutoImplicit true
set_option autoImplicit true
set_option relaxedAutoImplicit true
namespace Go.Sim
open Go
section
variable {P:Program} {Q:Exit→Act→World→Prop} {F0:Fz} {n:Nat} {E:List (Nat×SV)} {L:List bM}
theorem bl.scope {c:Code} (k:bl F0 n E L (c.wp P (Exit.noGoto Q))):bl F0 n E L ((Code.scope c).wp P Q):=λF a w h0 hE hS=>wp_scope_straight (k F a w h0 hE hS)
theorem Pt (k:bl F0 n E L (Q .ret)):bl F0 n E L (Exit.noGoto Q .ret):=k
theorem bl.label (k:bl F0 n E L (Q .normal)):bl F0 n E L ((Code.label l).wp P Q):=λF a w h0 hE hS=>wp_label (k F a w h0 hE hS)
end
def RW (s:SV):Prop:=∀F G u,s.ok F u→s.ok G u
theorem RW.raw:RW (.raw v):=λF G u h=>by simp only[SV.ok] at*;exact h
theorem RW.val (hK:la K):RW (.val K x):=λF G u h=>by simp only[SV.ok] at*;obtain⟨cs,a,b⟩:=h;exact⟨cs,hK _ _ _ _ a,b⟩
def Et {α:Type} (v:Value) (K:Kd α) (xs:List α):List SV→List SV→Prop|[],[]=>True|a::l,b::l'=>(a=b∨(a= .raw v∧b= .val (cc K) xs))∧Et v K xs l l'|_,_=>False
theorem zn (hv:(cc K).val F v xs):∀{l l':List SV} {vs:List Value},Et v K xs l l'→SV.oks F vs l→SV.oks F vs l'|[],[],vs,_,h=>h|a::l,b::l',[],_,h=>by simp only[SV.oks] at h|a::l,b::l',u::vs,hl,h=>by simp only[SV.oks] at h⊢;obtain⟨h1,h2⟩:=hl;refine⟨?_,zn hv h2 h.2⟩;rcases h1 with rfl|⟨rfl,rfl⟩;exact h.1;have:=h.1;simp only[SV.ok] at this⊢;subst this;exact hv|[],_::_,_,hl,_=>hl.elim|_::_,[],_,hl,_=>hl.elim
theorem zo {K:Kd α} {xs:List α} {F:Fz} (a:yE F h) (hh:(bM.own K v e xs).holds (F.add h) h):(cc K).val (F.add h) v xs:=by rcases hh with⟨rfl,rfl,_⟩|⟨g,cap,cur,rfl,rfl,h3,h4,h5,h6⟩;exact⟨[.slice none 0 0],⟨none,0,rfl,IL _,.inl rfl⟩,rfl⟩;refine⟨[.slice (some ⟨g,0,none⟩) xs.length cap],⟨_,cap,rfl,h3,.inr ⟨⟨g,0,none⟩,cur,e,(0,0),rfl,rfl,?_,?_,by simpa using h6⟩⟩,rfl⟩;have hg:F.blk g=none:=a g (by rw[Mo];simp);simp only[Fz.add,hg];exact Mo _ _;have:xs.length*K.n≤cap*K.n:=Iz _ h3;simp only;omega
def Fz.but (G F:Fz) (h:dv) (a:F≤G) (c:yE F h):Fz:={G with blk:=λb=>match h b with|none=>G.blk b|some _=>none,glob:=⟨λg k xs e=>by obtain⟨T,fr,q⟩:=F.glob.on g k xs e;(have h1:h g=none:=by cases hh:h g with|none=>rfl|some o=>have:=c g (by rw[hh];simp);rw[this] at q;cases q);exact⟨T,fr,by simp only[h1];exact a.blk _ _ q⟩⟩}
theorem wi {F G:Fz} (hr:(bM.own K v e xs).holds F h) (c:yE F h) (hg:F.add h≤G):∃B,F≤B∧(bM.own K v e xs).holds B h∧yE B h∧B.add h=G:=by have a:F≤G:=Nj (F.le_add h) hg;have d:F≤G.but F h a c:=⟨λb o hb=>by(have f:h b=none:=by cases hh:h b with|none=>rfl|some q=>have:=c b (by rw[hh];simp);rw[this] at hb;cases hb);simp only[Fz.but,f];exact a.blk _ _ hb,a.os,a.tape,a.output⟩;refine⟨G.but F h a c,d,bM.mono d hr,λb hb=>?_,?_⟩;(cases hh:h b with|none=>exact absurd hh hb|some q=>simp only[Fz.but,hh]);cases G with|mk blk os tape i g=>simp only[Fz.but,Fz.add,Fz.mk.injEq,LR];funext b;cases hh:h b with|none=>simp only[];cases blk b<;>rfl|some q=>simp only[];(have:(F.add h).blk b=some q:=by have hF:=c b (by rw[hh];simp);simp only[Fz.add,hF];exact hh);exact(hg.blk _ _ this).symm
theorem NH {L:List bM} (ho:∀L,Ok P f l' L s L) (hl:Et v K xs l l') (hf:RW s):Ok P f l (.own K v e xs::L) s (.own K v e xs::L):=λF w vs c hS=>by obtain⟨h,hr,a,d⟩:=hS;have b:F≤F.add h:=F.le_add h;have h1:SV.oks (F.add h) vs l':=zn (zo a (bM.mono b hr)) hl (Ns b c);have h2:St (F.add h) w (L.map (bM.fix F)):=(q8.fix F (F.add h)).1 d;refine(ho _ (F.add h) w vs h1 h2).mono λe' w' ⟨G,u,he,hg,g,i⟩=>?_;obtain⟨B,b1,b2,b3,b4⟩:=wi hr a hg;refine⟨B,u,he,b1,⟨h,b2,b3,?_⟩,hf _ _ _ i⟩;rw[b4];exact q8.mono b1 ((q8.fix F G).2 g)
theorem OW {P:Program} {f:FuncId} {α:Type} {K:Kd α} {v:Value} {e:TypeId} {xs:List α} {l l':List SV} {C:Type} {s:C→SV} {r:C→bM} {L:List bM} (ho:∀L,Rz P f l' L s (λy=>r y::L)) (hl:Et v K xs l l') (hf:∀y,RW (s y)) (hq:∀y F G h,(r y).holds F h→(r y).holds G h):Rz P f l (.own K v e xs::L) s (λy=> .own K v e xs::r y::L):=λF w vs c hS=>by obtain⟨h,hr,a,d⟩:=hS;have b:F≤F.add h:=F.le_add h;have h1:SV.oks (F.add h) vs l':=zn (zo a (bM.mono b hr)) hl (Ns b c);have h2:St (F.add h) w (L.map (bM.fix F)):=(q8.fix F (F.add h)).1 d;refine(ho _ (F.add h) w vs h1 h2).mono λe' w' ⟨y,G,u,he,hg,hS',g⟩=>?_;obtain⟨B,b1,b2,b3,b4⟩:=wi hr a hg;obtain⟨k,k1,k2,k3⟩:=hS';refine⟨y,B,u,he,b1,⟨h,b2,b3,?_⟩,hf _ _ _ _ g⟩;rw[b4];exact⟨k,hq y _ _ _ k1,k2,q8.mono b1 ((q8.fix F G).2 k3)⟩
theorem Db {K:Kd α}:∀{xs:List α} {cs:List Value} {h:Nat},cj K F (cs.take (xs.length*K.n)) xs→h≤xs.length→cj K F (cs.take (h*K.n)) (xs.take h)|xs,cs,0,_,_=>by rw[Mc,Ku,Ku];exact rfl|[],cs,h+1,_,hh=>by simp at hh|x::xs,cs,h+1,hr,hh=>by obtain⟨c,d,e,a,b⟩:=hr;have hc:=K.len a;(have e1:cs.take ((h+1)*K.n)=c++d.take (h*K.n):=by have h2:(h+1)*K.n≤(x::xs).length*K.n:=Iz _ hh;(have h3:cs.take ((h+1)*K.n)=(cs.take ((x::xs).length*K.n)).take ((h+1)*K.n):=by rw[KE,Jq h2]);rw[h3,e,List.take_append,hc,Jk];(have h4:h*K.n+K.n - K.n=h*K.n:=by omega);rw[h4,ID (by omega)]);(have h5:d=d.take (xs.length*K.n):=by have h6:=congrArg List.length e;rw[Iu,IM,hc,IN,Jk] at h6;rw[ID (by omega)]);rw[e1];exact⟨c,_,rfl,a,Db (by rw[←h5];exact b) (by simpa using hh)⟩
theorem Oi {K:Kd α} {xs:List α} (hh:h≤xs.length) (k:bl F0 n E (.own K (P0 v 0 h K.n) e (xs.take h)::L) X):bl F0 n E (.own K v e xs::L) X:=λF a w h0 hE hS=>k F a w h0 hE (hS.map λf hf=>by rcases hf with⟨rfl,rfl,rfl⟩|⟨g,cap,cur,rfl,rfl,h3,h4,h5,h6⟩;(have:h=0:=by simpa using hh);subst this;exact .inl ⟨rfl,rfl,rfl⟩;(have hl:(xs.take h).length=h:=by rw[IM,Jq hh]);refine .inr ⟨g,cap,cur,?_,rfl,by omega,h4,h5,by rw[hl];exact Db h6 hh⟩;rw[hl];unfold P0;simp only[Lt];split<;>simp[Addr.add])
theorem OM {L:List bM}
      (ho:∀L,gT P n ((t,.val (cc K) xs)::E) L ⟨some d,op,ty,pos,aft,none⟩ s) (ht:look E t=some (.raw v)) (hf:RW s) (hd:Nat.blt d n=true)
  (k:bl F0 n ((d,s)::E) (.own K v e xs::L) (wpList P ops Q rest)):bl F0 n E (.own K v e xs::L) (wpList P ops Q (⟨some d,op,ty,pos,aft,none⟩::rest)):=
 ME rfl λF a w h0 hE hS=>by
  have hS0:=hS
  obtain⟨h,hr,hap,hs'⟩:=hS
  have hle:F≤F.add h:=F.le_add h
  have hval:=zo hap (bM.mono hle hr)
  have h2:St (F.add h) w (L.map (bM.fix F)):=(q8.fix F (F.add h)).1 hs'
  have hE':Env (F.add h) a n ((t,.val (cc K) xs)::E):=⟨hE.defers,hE.size,λu r hl=>by
   rw[de] at hl;split at hl
   · rename_i hk;subst hk;cases hl
     obtain⟨v',h1,h3⟩:=hE.at_ t _ ht
     simp only[SV.ok] at h3;subst h3
     exact⟨_,h1,by simp only[SV.ok];exact hval⟩
   · exact(hE.mono hle).at_ u r hl⟩
  obtain⟨u,hu,this⟩:=ho (L.map (bM.fix F)) (F.add h) a hE'
  have this:=this w ⟨F.add h,NC _,h2⟩
  have hu':=hf _ F _ hu
  unfold Oper.quietAt at this
  unfold Oper.wp
  generalize (execOp a.eval (⟨some d,op,ty,pos,aft,none⟩:Oper)).run P w=r at this
  cases r with
  |halt x w'=>exact this.elim
  |ok nx w'=>
   cases nx<;>simp only[Oper.quietUpon] at this<;>simp only[Oper.upon]
   case value u=>obtain⟨rfl,rfl⟩:=this;exact k _ _ _ h0 (hE.put hd hu') hS0
   case skip=>obtain⟨rfl,rfl⟩:=this;exact k _ _ _ h0 (hE.put hd hu') hS0
   case enter f args=>
     obtain⟨rfl,hc⟩:=this
     exact hc.mono λe w'' ⟨he,G,hg,hw⟩=>by
      subst he
      obtain⟨B,b1,b2,b3,b4⟩:=wi hr hap hg
      exact k B _ _ (Nj h0 b1) ((hE.mono b1).put hd (Nf b1 hu')) ⟨h,b2,b3,by rw[b4];exact q8.mono b1 ((q8.fix F G).2 hw)⟩
theorem O4 {P:Program} {f:Array Oper} {Q:Exit→Act→World→Prop} {e:List Oper} {F0:Fz} {n:Nat} {E:List (Nat×SV)} {L:List bM} {d:Nat} {ty:TypeId} {pos:String} {aft:Array Edge} {α β:Type} [BEq α] {K:Kd α} {V:Kd β} {T kt et:TypeId} {b:Nat} {ps:List (α×β)} {M X:Operand} {x:α} {z:β} {s1:SV} (hk:QV P kt K) (hT:P.underlying T=some (.map kt et)) (hz:ZV P et V z) (hM:ev E M=some (.raw (.map (some b)))) (hX:ev E X=some s1) (h1:il s1 K x) (hd:Nat.blt d n=true) (k:bl F0 n ((d,.tup [.val V (dh x ps z),.raw (.bool (nJ x ps).isSome)])::E) (.mp K V b ps::L) (wpList P f Q e)):bl F0 n E (.mp K V b ps::L) (wpList P f Q (⟨some d,.lookup T M X true,ty,pos,aft,none⟩::e)):=ME rfl λF a w h0 hE hS=>by obtain⟨h,⟨es,c,⟨i,hst⟩,rfl⟩,hon⟩:=hS.head;have hb:w.heap[b]? =some (.map es c):=hon b _ (Mo _ _);obtain⟨v,hv,hr⟩:=wd hk hT hz i (h1 F _ (hE.eval hX));have g:=(hr w (some b) ⟨c,hb⟩).2;unfold Oper.wp;simp only[execOp,hE.raw hM,g,IC,Iv,IJ,Oper.upon];exact k F _ _ h0 (hE.put hd (by simp only[SV.ok];exact⟨[v,.bool (nJ x ps).isSome],rfl,by simp only[SV.oks,SV.ok];exact⟨hv,trivial,trivial⟩⟩)) hS
end Go.Sim
namespace Go.Sim
open Go
theorem sb {E':List (Nat×SV)} (h:E'.map (λp=>look E p.1)=E'.map (λp=>some p.2)):∀t v,look E' t=some v→look E t=some v:=by induction E' with|nil=>exact lz E|cons p E' ih=>obtain⟨k,u⟩:=p;simp only[IU,List.cons.injEq] at h;exact aP h.1 (ih h.2)
def zp:Nat→List bM→List bM→List bM|0,_,T=>T|k+1,r::l,T=>r::zp k l T|_+1,[],T=>T
def Eu:Nat→List bM→List bM|0,l=>l|k+1,_::l=>Eu k l|_+1,[]=>[]
theorem ui:∀(k:Nat) (l:List bM),zp k l (Eu k l)=l|0,_=>rfl|k+1,r::l=>by simp only[zp,Eu,ui k l]|_+1,[]=>rfl
theorem zr:∀(k:Nat) (l:List bM) (r:bM) (T:List bM),(r::zp k l T).Perm (zp k l (r::T))|0,_,_,_=> .refl _|k+1,q::l,r,T=>(List.Perm.swap _ _ _).trans (.cons _ (zr k l r T))|_+1,[],_,_=> .refl _
section
variable {P:Program} {ops:Array Oper} {Q:Exit→Act→World→Prop} {rest:List Oper} {F0:Fz} {n:Nat} {E:List (Nat×SV)} {L:List bM}
variable {D:List Nat} {d:Nat} {op:Op} {ty:TypeId} {pos:String} {aft:Array Edge} {s:SV} {Lf:List bM→List bM} {tab:List L_}
def GS (G:Fz) (L:List bM) (d:Nat) (s:SV):Act→World→Prop:=λa w=>∃(H:Fz) (_:Value),G≤H∧(∃u,a.tmps[d]? =some u∧s.ok H u)∧St H w L∧a.defers=[]
def zI (P:Program) (n:Nat) (Lf:List bM→List bM) (a:Array Oper) (F0:Fz) (K:List (Nat×SV)→Prop):List (List Nat)→List Oper→List (Nat×SV)→Prop|us::p,o::l,E=>∃d s,o.dst=some d∧(∀G T,F0≤G→bl G n (jk us E) (Lf T) (wpList P a (Exit.then (GS G (Lf T) d s) QF) [o]))∧zI P n Lf a F0 K p l ((d,s)::E)|[],[],E=>K E|_,_,_=>False
theorem GT (hk:∀E,K E→K' E):∀{its:List xG} {p:List (List Nat)} {l:List Oper} {E:List (Nat×SV)} {j:Nat},rD P n tab Lf a F0 bs K j its p l E→rD P n tab Lf a F0 bs K' j its p l E|[],[],[],_,_,h=>hk _ h|_::_,_::_,_::_,_,_,h=>⟨h.1,GT hk h.2⟩|[],_::_,_,_,_,h=>by simp[rD] at h|[],[],_::_,_,_,h=>by simp[rD] at h|_::_,[],_,_,_,h=>by simp[rD] at h|_::_,_::_,[],_,_,h=>by simp[rD] at h
def Uo (l:List SV):List xG:=l.map λs=>⟨c8 s,[],[],[]⟩
theorem GU:∀{p:List (List Nat)} {l:List Oper} {E:List (Nat×SV)},zI P n Lf a F0 K p l E→∃vs:List SV,∀G,F0≤G→∀bs j,rD P n [] Lf a G bs K j (Uo vs) p l E|[],[],E,h=>⟨[],λ_ _ _ _=>h⟩|us::p,o::l,E,h=>by obtain⟨d,s,hd,h1,h2⟩:=h;obtain⟨vs,hv⟩:=GU h2;refine⟨s::vs,λG hG bs j=>⟨λR hR G' T b=>?_,?_⟩⟩;simp only[mZ,Ji] at hR;subst hR;rw[hd];exact h1 G' T (Nj hG b);rw[hd];exact hv G hG bs (j+1)|[],_::_,_,h=>h.elim|_::_,[],_,h=>h.elim
theorem Vq.v (h:∀G T,F0≤G→bl G n (jk us E) (Lf T) (wpList P a (Exit.then (GS G (Lf T) d s) QF) [⟨some d,op,ty,pos,aft,g⟩])) (k:zI P n Lf a F0 K p l ((d,s)::E)):zI P n Lf a F0 K (us::p) (⟨some d,op,ty,pos,aft,g⟩::l) E:=⟨d,s,rfl,h,k⟩
def Mt:=@Vq.v
theorem Mm (hd:look E d=some s):bl F0 n E L (wpList P b (Exit.then (GS F0 L d s) QF) []):=λF a w h0 hE hS=>⟨F,undef,h0,hE.at_ d _ hd,hS,hE.defers⟩
theorem vo (h:∀L,gT P n (jk us E) L ⟨some d,op,ty,pos,aft,none⟩ s) (hd:Nat.blt d n=true) (k:zI P n Lf a F0 K p l ((d,s)::E)):zI P n Lf a F0 K (us::p) (⟨some d,op,ty,pos,aft,none⟩::l) E:=Mt (λG T _=>MZ (h _) hd (Mm (by simp[look]))) k
theorem vm (h:ev (jk us E) x=some s) (hd:Nat.blt d n=true) (k:zI P n Lf a F0 K p l ((d,s)::E)):zI P n Lf a F0 K (us::p) (⟨some d,.move x,ty,pos,aft,none⟩::l) E:=vo (λ_=>gT.move h) hd k
theorem vb (hX:ev (jk us E) X=some (.raw (.int i x))) (hY:ev (jk us E) Y=some (.raw (.int i y))) (hv:QU b i x y=some v) (hd:Nat.blt d n=true) (k:zI P n Lf a F0 K p l ((d,.raw v)::E)):zI P n Lf a F0 K (us::p) (⟨some d,.binOp b t X Y u,ty,pos,aft,none⟩::l) E:=vo (λ_=>OG hX hY hv) hd k
theorem vn (h:bl F0 n E L (pZ P Q l D)):zI P n Lf a F0 (λE'=>bl F0 n E' L (pZ P Q l D)) [] [] E:=h
theorem Ev:∀(vs:List SV) (j:Nat),RT (Uo vs) j=[]|[],_=>rfl|s::vs,j=>by simp only[Uo,IU,RT,JT,IP];exact Ev vs (j+1)
theorem vx:∀vs:List SV,oj (Uo vs)=[]|[]=>rfl|s::vs=>by have:=vx vs;simp only[oj,Uo,IU,Jj,IP] at*;exact this
theorem Dc (l:List Oper) (g:List Nat) (a:List xG) (hf:oj a=[]):∀(vs:List SV) (j:Nat),zh l g [] a (Uo vs) j=true|[],_=>rfl|s::vs,j=>by have ih:=Dc l g a hf vs (j+1);simp only[Uo,IU,zh] at ih⊢;rw[ih];simp[US,c8]
theorem O5 {l:List Oper} (g:List Nat) (p:List (List Nat)) (k:Nat) (hB:xh l D g p=true) (hn:(pick l g).all (λo=>match o.dst with|some d=>Nat.blt d n|none=>true)=true) (h:zI P n (zp k L) l.toArray F0 (λE'=>bl F0 n E' L (pZ P Q l (g++D))) p (pick l g) E):bl F0 n E L (pZ P Q l D):=by obtain⟨vs,hv⟩:=GU h;(have e1:oH [] (Uo vs)=[]:=by simp only[oH,JT,IP];exact Ev vs 0);refine MC (L0:=L) (L:=Eu k L) g p (Uo vs) [] (zp k L) (zr k L) (ui k L) hB ?_ hn (λF hF bs=>?_);simp only[Ta,e1,vx,Dc l g _ (vx vs) vs 0];rfl;rw[e1,vx];refine GT (λE' hk=>?_) (hv F hF bs 0);simp only[RD,IP,ui];exact MJ hF hk
theorem eH {x:Code} (e:R→List (Nat×SV)) (l:R→List bM) (hk:bl F0 n (e r) (l r) K) (h:∀K',(∀x,r=x→bl F0 n (e x) (l x) K')→bl F0 n E L (x.wp P (Exit.then K' Q))):bl F0 n E L (x.wp P (Exit.then K Q)):=h K λx hx=>hx▸hk
theorem lp [Fu] {S R C:Type} {step:S→Option (tj S R)} {x0:S} {r:R} {c:Code} (d:Loop.run step x0=some r) (c0:C) (Es:S→C→List (Nat×SV)) (Ls:S→C→List bM) (hE:(Es x0 c0).map (λp=>look E p.1)=(Es x0 c0).map (λp=>some p.2)) (hL:L=Ls x0 c0) (b:∀x y o,step x=some o→(∀q,o= .done q→q=r)→bl F0 n (Es x y) (Ls x y) (c.wp P (Exit.then (λa w=>∃x' y' F,o= .next x'∧F0≤F∧Env F a n (Es x' y')∧St F w (Ls x' y')) Q))):bl F0 n E L ((Code.loop c).wp P Q):=bl.loop c0 Es Ls d (sb hE) hL b
theorem nx {S R C:Type} {o:tj S R} {Es:S→C→List (Nat×SV)} {Ls:S→C→List bM} {x':S} (y':C) (ho:(some (tj.next x'):Option (tj S R))=some o) (hE:(Es x' y').map (λp=>look E p.1)=(Es x' y').map (λp=>some p.2)) (hL:L=Ls x' y'):bl F0 n E L (λa w=>∃x' y' F,o= .next x'∧F0≤F∧Env F a n (Es x' y')∧St F w (Ls x' y')):=Nq x' y' ho (sb hE) hL
theorem wr {E':List (Nat×SV)} (k:bl F0 n E' L X) (hs:E'.map (λp=>look E p.1)=E'.map (λp=>some p.2)):bl F0 n E L X:=OY k (sb hs)
theorem cI {fn:Func} {c:Code} {a:List SV} (m:Nat) (hf:P.funcs[f]? =some fn) (hb:fn.body=some c) (hn:fn.ntmps=m) (hl:Nat.ble a.length m=true) (k:∀F0,bl F0 m (Sl 0 a) L (c.wp P (bodyPost P fn λe w'=>∃G v,e= .returned v∧F0≤G∧St G w' L'∧s.ok G v))):Ok P f a L s L':=Ok.intro m _ hf hb hn hl rfl k
end
abbrev sP:=@Ps
abbrev lP:=@Pr
abbrev rI:=@OX
abbrev ca:=@bl.call
abbrev it:=@Pe
abbrev al:=@Pv
abbrev fz:=@Pg
abbrev kD:=@O0
abbrev f1:=@Oo
abbrev f2:=@Oq
abbrev f3:=@Ot
abbrev f4:=@Ou
abbrev ap:=@bl.app
abbrev tV:=@Po
abbrev bO:=@Pi
abbrev bF:=@Ph
abbrev bX:=@Pf
abbrev pn:=@PB
abbrev p1:=@PA
abbrev pd:=@OT
abbrev ph:=@OI
abbrev gV:=@O5
abbrev rs:=@Oe
abbrev pb (b:Nat):SV:= .raw (.pointer (some ⟨b,0,none⟩))
abbrev i64 (x:Int):SV:= .raw (.int .i64 x)
theorem bs {α β:Type} {x:Option α} {f:α→Option β} {r:β} {G:Prop} (h:x.bind f=some r) (k:∀a,x=some a→f a=some r→G):G:=let ⟨a,b,c⟩:=o_ h;k a b c
theorem gs {c:Bool} {α:Type} {x:Option α} {r:α} {G:Prop} (h:(bif c then x else none)=some r) (k:c=true→x=some r→G):G:=let ⟨a,b⟩:=RC h;k a b
section
variable {P:Program} {ops:Array Oper} {Q:Exit→Act→World→Prop} {rest:List Oper} {F0:Fz} {n:Nat} {E:List (Nat×SV)} {L:List bM}
variable {d e:Nat} {op:Op} {ty ty':TypeId} {pos pos':String} {aft aft':Array Edge} {s:SV}
theorem m_ (h:(ev E x,Nat.blt d n)=(some s,true)) (k:bl F0 n ((d,s)::E) L (wpList P b Q a)):bl F0 n E L (wpList P b Q (⟨some d,.move x,ty,pos,aft,none⟩::a)):=mv (Prod.mk.inj h).1 (Prod.mk.inj h).2 k
theorem a_ (h:(ev E x,Nat.blt d n)=(some s,true)) (k:bl F0 n ((d,s)::E) L (wpList P b Q a)):bl F0 n E L (wpList P b Q (⟨some d,.assign x,ty,pos,aft,none⟩::a)):=ag (Prod.mk.inj h).1 (Prod.mk.inj h).2 k
theorem b_ (h:(ev E X,ev E Y,QU b i x y,Nat.blt d n)=(some (.raw (.int i x)),some (.raw (.int i y)),some v,true)) (k:bl F0 n ((d,.raw v)::E) L (wpList P c Q a)):bl F0 n E L (wpList P c Q (⟨some d,.binOp b t X Y u,ty,pos,aft,none⟩::a)):=by simp only[Prod.mk.injEq] at h;exact bn h.1 h.2.1 h.2.2.1 h.2.2.2 k
theorem mb (h:(ev E x,Nat.blt d n,ev ((d,s)::E) X,ev ((d,s)::E) Y,QU b i p q,Nat.blt e n)=(some s,true,some (.raw (.int i p)),some (.raw (.int i q)),some v,true)) (k:bl F0 n ((e,.raw v)::(d,s)::E) L (wpList P c Q a)):bl F0 n E L (wpList P c Q (⟨some d,.move x,ty,pos,aft,none⟩::⟨some e,.binOp b t X Y u,ty',pos',aft',none⟩::a)):=by simp only[Prod.mk.injEq] at h;exact mv h.1 h.2.1 (bn h.2.2.1 h.2.2.2.1 h.2.2.2.2.1 h.2.2.2.2.2 k)
theorem oL (hT:KT P T K) (h:(ev E X,Nat.blt d n)=(some (.ptr K x),true)) (k:bl F0 n ((d,.val K x)::E) L (wpList P b Q a)):bl F0 n E L (wpList P b Q (⟨some d,.load T X,ty,pos,aft,none⟩::a)):=MZ (Mz hT (Prod.mk.inj h).1) (Prod.mk.inj h).2 k
theorem oI (hT:KT P T (bD i)) (h:(ev E X,Nat.blt d n)=(some (.ptr (bD i) x),true)) (k:bl F0 n ((d,.raw (.int i x))::E) L (wpList P b Q a)):bl F0 n E L (wpList P b Q (⟨some d,.load T X,ty,pos,aft,none⟩::a)):=MZ (Mw hT (Prod.mk.inj h).1) (Prod.mk.inj h).2 k
theorem oE (h:(ev E X,l[i]?,Nat.blt d n)=(some (.tup l),some s,true)) (k:bl F0 n ((d,s)::E) L (wpList P b Q a)):bl F0 n E L (wpList P b Q (⟨some d,.extract X i,ty,pos,aft,none⟩::a)):=by simp only[Prod.mk.injEq] at h;exact MZ (M1 h.1 h.2.1) h.2.2 k
theorem oN {xs:List α} (ht:P.underlying t=some (.slice e)) (h:(ev E X,Nat.blt d n)=(some (.val (cc K) xs),true)) (k:bl F0 n ((d,.raw (.int .i64 xs.length))::E) L (wpList P b Q a)):bl F0 n E L (wpList P b Q (⟨some d,.call ⟨.builtin .len,#[X],#[t]⟩,ty,pos,aft,none⟩::a)):=MZ (Nd ht (Prod.mk.inj h).1 bC) (Prod.mk.inj h).2 k
theorem oF {f:kJ β} (hT:cv P T i=some (dH fs i,m+1)) (h:(ev E X,fs[i]?,Nat.blt d n)=(some (.ptr (pH fs) x),some f,true)) (k:bl F0 n ((d,.ptr f.K (f.get x))::E) L (wpList P b Q a)):bl F0 n E L (wpList P b Q (⟨some d,.fieldAddr T X i,ty,pos,aft,none⟩::a)):=by simp only[Prod.mk.injEq] at h;exact MZ (MM hT h.2.1 h.1) h.2.2 k
theorem oM (hT:cv P T i=some (o,m+1)) (h:(ev E X,Nat.blt d n)=(some (.raw (.pointer (some ⟨b,off,none⟩))),true)) (k:bl F0 n ((d,.raw (.pointer (some ⟨b,off+o,none⟩)))::E) L (wpList P c Q a)):bl F0 n E L (wpList P c Q (⟨some d,.fieldAddr T X i,ty,pos,aft,none⟩::a)):=MZ (MW hT (Prod.mk.inj h).1) (Prod.mk.inj h).2 k
theorem oX {K:Kd α} {i:Int} (hb:Qs r R b K0 x) (p:At K0 x off (bR m K) xs up) (hi:idx xs i=some z) (hT:P.underlying T=some (.array m e)) (hs:(P.info? e).map (·.size)=some K.n) (h:(ev E X,ev E I,Nat.blt d n)=(some (.raw (.pointer (some ⟨b,off,none⟩))),some (.raw (.int q i)),true)) (k:bl F0 n ((d,.raw (.pointer (some ⟨b,off+i.toNat*K.n,none⟩)))::E) (r::L) (wpList P c Q a)):bl F0 n E (r::L) (wpList P c Q (⟨some d,.indexAddr T X I,ty,pos,aft,none⟩::a)):=by simp only[Prod.mk.injEq] at h;exact MZ (PG hb p hi hT hs h.1 h.2.1) h.2.2 k
theorem oS {K:Kd α} (hx:idx xs i=some x) (hT:P.underlying T=some (.slice e)) (hs:(P.info? e).map (·.size)=some K.n) (h:(ev E X,ev E I,Nat.blt d n)=(some (.val (cc K) xs),some (.raw (.int q i)),true)) (k:bl F0 n ((d,.ptr K x)::E) L (wpList P b Q a)):bl F0 n E L (wpList P b Q (⟨some d,.indexAddr T X I,ty,pos,aft,none⟩::a)):=by simp only[Prod.mk.injEq] at h;exact MZ (MA hx hT hs h.1 bC h.2.1) h.2.2 k
theorem oC {i:IntKind} (hs:(P.underlying q).isSome=true) (ht:P.underlying t=some (.int i)) (h:(ev E X,Nat.blt d n)=(some (.raw (.int j x)),true)) (k:bl F0 n ((d,.raw (.int i (i.wrap x)))::E) L (wpList P b Q a)):bl F0 n E L (wpList P b Q (⟨some d,.convert q t X,ty,pos,aft,none⟩::a)):=MZ (M0 hs ht (Prod.mk.inj h).1) (Prod.mk.inj h).2 k
theorem cx {xs:List Operand} (hc:∀a w,(callFunc f a).run P w= .ok (.enter f a) w) (h:(ev E X,Uz E xs,Nat.blt d n)=(some (.raw (.func (.func f) #[] #[])),some l,true)) (ho:Ok P f l L s L') (k:bl F0 n ((d,s)::E) L' (wpList P c Q b)):bl F0 n E L (wpList P c Q (⟨some d,.call ⟨.value X,xs.toArray,tys⟩,ty,pos,aft,none⟩::b)):=by simp only[Prod.mk.injEq] at h;exact bl.call hc h.1 h.2.1 ho h.2.2 k
theorem bH (hc:c=b) (h:((a[j]?).bind (·.dst),look E g)=(some g,some (.raw (.bool c)))) (k:bl F0 n E L (wpList P a Q (⟨o,op,ty,pos,aft,none⟩::rest))):bl F0 n E L (wpList P a Q (⟨o,op,ty,pos,aft,some (j,b)⟩::rest)):=gc hc (Prod.mk.inj h).1 (Prod.mk.inj h).2 k
theorem bG (hc:c= !b) (h:((ops[j]?).bind (·.dst),look E g,Nat.blt u n)=(some g,some (.raw (.bool c)),true)) (k:bl F0 n ((u,.raw undef)::E) L (wpList P ops Q rest)):bl F0 n E L (wpList P ops Q (⟨some u,op,ty,pos,aft,some (j,b)⟩::rest)):=by simp only[Prod.mk.injEq] at h;exact sk hc h.1 h.2.1 h.2.2 k
theorem pT (hc:c=true) (h:(ev E x,ev E y,Nat.blt d n)=(some (.raw (.bool c)),some s,true)) (k:bl F0 n ((d,s)::E) L (wpList P b Q a)):bl F0 n E L (wpList P b Q (⟨some d,.pick x y z,ty,pos,aft,none⟩::a)):=by simp only[Prod.mk.injEq] at h;exact MZ (SM hc h.1 h.2.1) h.2.2 k
theorem pF (hc:c=false) (h:(ev E x,ev E z,Nat.blt d n)=(some (.raw (.bool c)),some s,true)) (k:bl F0 n ((d,s)::E) L (wpList P b Q a)):bl F0 n E L (wpList P b Q (⟨some d,.pick x y z,ty,pos,aft,none⟩::a)):=by simp only[Prod.mk.injEq] at h;exact MZ (SP hc h.1 h.2.1) h.2.2 k
theorem dG (h:(ev (jk us E) x,Nat.blt d n)=(some s,true)) (k:zI P n Lf a F0 K p l ((d,s)::E)):zI P n Lf a F0 K (us::p) (⟨some d,.move x,ty,pos,aft,none⟩::l) E:=vm (Prod.mk.inj h).1 (Prod.mk.inj h).2 k
theorem kC (h:(ev (jk us E) X,ev (jk us E) Y,QU b i x y,Nat.blt d n)=(some (.raw (.int i x)),some (.raw (.int i y)),some v,true)) (k:zI P n Lf a F0 K p l ((d,.raw v)::E)):zI P n Lf a F0 K (us::p) (⟨some d,.binOp b t X Y u,ty,pos,aft,none⟩::l) E:=by simp only[Prod.mk.injEq] at h;exact vb h.1 h.2.1 h.2.2.1 h.2.2.2 k
end
end Go.Sim
namespace Go.Sim
open Go
section
variable {P:Program} {ops:Array Oper} {Q:Exit→Act→World→Prop} {rest:List Oper} {F0:Fz} {n:Nat} {E:List (Nat×SV)} {L:List bM}
variable {d:Nat} {op:Op} {ty:TypeId} {pos:String} {aft:Array Edge} {s:SV}
end
end Go.Sim
namespace Go.Sim
open Go
section
variable {P:Program} {ops:Array Oper} {Q:Exit→Act→World→Prop} {rest:List Oper} {F0:Fz} {n:Nat} {E:List (Nat×SV)} {L:List bM}
variable {τ:Type} {KT:Kd τ} {TE TT:TypeId} {v:Value}
abbrev GV (KT:Kd τ) (TE TT:TypeId) (v:Value) (xs:List (List τ)):bM:=qx fd KT (λ(_:List τ) (q:Value)=>q) (λx:List τ=>x) TE TT v xs
theorem xi:∀{xs:List (List τ)} {qs:List Value},qs.length=xs.length→List.zipWith (λ(_:List τ) (q:Value)=>q) xs qs=qs|[],[],_=>rfl|x::xs,q::qs,h=>by rw[List.zipWith_cons_cons,xi (by simpa using h)]|[],_::_,h=>by simp at h|_::_,[],h=>by simp at h
theorem PE (hs:St F w L):St F w (.own KT (.slice none 0 0) TT []::L):=by refine⟨dv.emp,.inl ⟨rfl,rfl,rfl⟩,λb hb=>absurd rfl hb,?_⟩;rw[Nm];exact hs
theorem OE (hs:St F w L):∀m,St F w (qC KT (λx:List τ=>x) TT (List.replicate m []) (List.replicate m (.slice none 0 0))++L)|0=>hs|m+1=>by have:=OE hs m;rw[JD,JD];exact PE (KT:=KT) (TT:=TT) this
theorem NU (k:bl F0 n E (GV KT TE TT v (List.replicate m [])::L) X):bl F0 n E (.own fd v TE (List.replicate m (.slice none 0 0))::L) X:=λF a w h0 hE hS=>by refine k F a w h0 hE (Ni (qs:=List.replicate m (.slice none 0 0)) (by simp) ?_);rw[xi (by simp)];exact(OE (KT:=KT) (TT:=TT) hS m).perm KM
theorem NV {xs:List (List τ)} {i:Int} (hT:la KT) (hi:idx xs i=some x) (k:∀(q:Value) (ys:List Value) (Rs:List bM),ys.length=xs.length→idx ys i=some q→(∀x' q' F w L',St F w (.own fd v TE (List.set ys i.toNat q'):: .own KT q' TT x'::(Rs++L'))→St F w (GV KT TE TT v (List.set xs i.toNat x')::L'))→bl F0 n E (.own fd v TE ys:: .own KT q TT x::(Rs++L)) X):bl F0 n E (GV KT TE TT v xs::L) X:=λF a w h0 hE hS=>by obtain⟨qs,hl,b⟩:=hS.manyOpen la.raw hT;rw[xi hl] at b;obtain⟨h1,h2,h3⟩:=kY hi;have j:i.toNat<xs.length:=(It.1 h3).1;(have c:i.toNat<qs.length:=by omega);have hx:xs[i.toNat]=x:=(It.1 h3).2;(have f:∀x' q',qC KT (λx:List τ=>x) TT (xs.set i.toNat x') (qs.set i.toNat q')=qC KT (λx:List τ=>x) TT (xs.take i.toNat) (qs.take i.toNat)++.own KT q' TT x'::qC KT (λx:List τ=>x) TT (xs.drop (i.toNat+1)) (qs.drop (i.toNat+1)):=λx' q'=>by unfold qC;rw[J6,Jm j,J6,Jm c];rw[List.zipWith_append (by simp;omega)];rfl);(have g:xs.set i.toNat x=xs:=by rw[←hx];simp);(have e:qs.set i.toNat qs[i.toNat]=qs:=by simp);have d:=f x qs[i.toNat];rw[g,e] at d;rw[d] at b;refine k qs[i.toNat] qs (qC KT (λx:List τ=>x) TT (xs.take i.toNat) (qs.take i.toNat)++qC KT (λx:List τ=>x) TT (xs.drop (i.toNat+1)) (qs.drop (i.toNat+1))) hl ?_ (λx' q' F w L' h=>?_) F a w h0 hE (b.perm ?_);unfold idx;rw[Jm h1];simp[c];refine Ni (qs:=qs.set i.toNat q') (by simp[hl]) ?_;rw[xi (by simp[hl]),f x' q'];refine h.perm (List.Perm.cons _ ?_);simp only[IR,JS];exact KM.symm;refine List.Perm.cons _ ?_;simp only[IR,JS];exact KM
end
end Go.Sim
namespace Go.Sim
open Go
section
variable {P:Program} {ops:Array Oper} {Q:Exit→Act→World→Prop} {rest:List Oper} {F0:Fz} {n:Nat} {E:List (Nat×SV)} {L:List bM}
variable {d:Nat} {op:Op} {ty:TypeId} {pos:String} {aft:Array Edge} {s:SV}
end
end Go.Sim
namespace Go.Sim
open Go
section
variable {P:Program} {ops:Array Oper} {Q:Exit→Act→World→Prop} {rest:List Oper} {F0:Fz} {n:Nat} {E:List (Nat×SV)} {L:List bM}
variable {d:Nat} {op:Op} {ty:TypeId} {pos:String} {aft:Array Edge} {s:SV}
end
end Go.Sim
namespace Go.Sim
open Go
theorem kr (h:a=b:=by kernel_rfl):a=b:=h
theorem kq {P:Program} {K:Kd α} (h1:(P.info? T).map (·.size)=some K.n:=by kernel_rfl) (h2:Qo P T=some K.agg:=by kernel_rfl):KT P T K:=⟨h1,h2⟩
theorem uq {γ:Type} {fs:List (kJ γ)} {i:Nat} {f:kJ γ} {s1:γ→f.α→γ} (h1:fs[i]? =some f:=by exact rfl) (h2:∀x y,f.get (s1 x y)=y:=by exact λ_ _=>rfl) (h3:∀x y,PR x (s1 x y) fs i:=by exact λ_ _=>by simp[PR]):p_ fs i f s1:=⟨h1,h2,h3⟩
class ZK {α:Type} (K:Kd α) (z:outParam α) where
 cs:List Value
 rd:∀F,K.rd F cs z
instance (k:IntKind):ZK (bD k) 0:=⟨[.int k 0],λ_=>rfl⟩
instance:ZK oi false:=⟨[.bool false],λ_=>rfl⟩
instance:ZK xJ []:=⟨[.string ByteArray.empty],λ_=>⟨_,rfl,rfl⟩⟩
instance {α:Type} (K:Kd α):ZK (cc K) []:=⟨[.slice none 0 0],λ_=>⟨none,0,rfl,IL _,.inl rfl⟩⟩
instance {α β:Type} (K:Kd α) (V:Kd β):ZK (Se K V) []:=⟨[.map none],λ_=> .inl ⟨rfl,rfl⟩⟩
instance:ZK fd (.slice none 0 0):=⟨[.slice none 0 0],λ_=>⟨rfl,rfl⟩⟩
instance {α:Type} (m:Nat) (K:Kd α) (z:α) [h:ZK K z]:ZK (bR m K) (List.replicate m z):=⟨(List.replicate m h.cs).flatten,λF=>⟨by simp,qq (h.rd F) m⟩⟩
class ZF {β:Type} (fs:List (kJ β)) (z:β) where
 cs:List Value
 rd:∀F,xH F fs cs z
instance {β:Type} (z:β):ZF [] z:=⟨[],λ_=>rfl⟩
instance {β γ:Type} (K:Kd γ) (g:β→γ) (fs:List (kJ β)) (z:β) [h:ZK K (g z)] [k:ZF fs z]:ZF (⟨K,g⟩::fs) z:=⟨h.cs++k.cs,λF=>⟨h.cs,k.cs,rfl,h.rd F,k.rd F⟩⟩
@[reducible] def zs {β:Type} {fs:List (kJ β)} {z:β} [h:ZF fs z]:ZK (pH fs) z:=⟨h.cs,h.rd⟩
def nY (P:Program) (T:TypeId):Option (Nat×Nat×List Value):=(P.info? T).bind λi=>i.zero.map λv=>(i.size,i.bytes,v.cells.toList)
theorem qK {P:Program} {T:TypeId} {m b:Nat} {cs:List Value} (h:nY P T=some (m,b,cs)):∃ie zv,P.info? T=some ie∧ie.zero=some zv∧ie.size=m∧ie.bytes=b∧zv.cells.toList=cs:=by obtain⟨i,h1,h2⟩:=Jp.1 h;obtain⟨v,h3,h4⟩:=Jh.1 h2;cases h4;exact⟨i,v,h1,h3,rfl,rfl,rfl⟩
theorem zq {α:Type} {P:Program} {T:TypeId} {K:Kd α} {z:α} [h:ZK K z] (e:(nY P T).map (·.2.2)=some h.cs:=by kernel_rfl):ZT P T K z:=by obtain⟨⟨m,b,ds⟩,h1,h2⟩:=Jh.1 e;simp only at h2;subst h2;obtain⟨i,v,a1,a2,a3,a4,a5⟩:=qK h1;exact⟨v,by rw[a1];exact a2,λF=>a5▸h.rd F⟩
theorem RU {α:Type} {P:Program} {T:TypeId} {K:Kd α} {z:α} [h:ZK K z] (e:(nY P T).map (λx=>(x.1,Nat.blt 0 x.1,x.2.2))=some (K.n,true,h.cs):=by kernel_rfl):ET P T K z:=by obtain⟨⟨m,b,ds⟩,h1,h2⟩:=Jh.1 e;simp only[Prod.mk.injEq] at h2;obtain⟨rfl,h3,rfl⟩:=h2;obtain⟨i,v,a1,a2,a3,a4,a5⟩:=qK h1;exact⟨i,v,a1,a2,a3,by simpa[Kg] using h3,λF=>a5▸h.rd F⟩
theorem aq {α:Type} {P:Program} {T:TypeId} {K:Kd α} {z:α} [h:ZK K z] {b:Nat} (e:(nY P T).map (λx=>(x,Nat.blt 0 x.1,Nat.ble x.2.1 4096))=some ((K.n,b,h.cs),true,true):=by kernel_rfl):AT P T K z b:=by obtain⟨⟨m,b,ds⟩,h1,h2⟩:=Jh.1 e;simp only[Prod.mk.injEq] at h2;obtain⟨⟨rfl,rfl,rfl⟩,h3,h4⟩:=h2;obtain⟨i,v,a1,a2,a3,a4,a5⟩:=qK h1;exact⟨i,v,a1,a2,a3,a4,by simpa[Kg] using h3,JV h4,λF=>a5▸h.rd F⟩
def Uj {β:Type}:Nat→List (kJ β)→List (Nat×Nat)|_,[]=>[]|o,f::fs=>(o,f.K.n)::Uj (o+f.K.n) fs
theorem Dd:∀(fs:List (kJ β)) (o i:Nat) (f:kJ β),fs[i]? =some f→(Uj o fs)[i]? =some (o+dH fs i,f.K.n)|[],_,_,_,h=>by cases h|g::fs,o,0,f,h=>by cases h;rfl|g::fs,o,i+1,f,h=>by have:=Dd fs (o+g.K.n) i f h;simp only[Uj,List.getElem?_cons_succ,this,dH,Mi]
def V1 (P:Program) (T:TypeId):Option (List (Nat×Nat)):=match P.underlying T with|some (.struct ff)=>ff.toList.mapM (λf=>(P.info? f.type).map λi=>(f.offset,i.size))|_=>none
theorem bq {β:Type} {P:Program} {T:TypeId} {fs:List (kJ β)} {z:β} [h:ZF fs z] (e:((nY P T).map (·.2.2),V1 P T)=(some h.cs,some (Uj 0 fs)):=by kernel_rfl):BT P T fs z:=by simp only[Prod.mk.injEq] at e;obtain⟨e,e2⟩:=e;obtain⟨⟨m,b,ds⟩,h1,h2⟩:=Jh.1 e;simp only at h2;subst h2;obtain⟨i,v,a1,a2,a3,a4,a5⟩:=qK h1;unfold V1 at e2;split at e2;rename_i ff hu;refine⟨i,v,ff,_,a1,a2,hu,e2,λj f hj=>?_,λF=>a5▸h.rd F⟩;have:=Dd fs 0 j f hj;simpa using this;cases e2
def Wx (P:Program) (T:TypeId):Option (Nat×Nat):=match P.underlying T with|some (.array m e)=>(P.info? e).map λi=>(m,i.size)|_=>none
theorem VR {α:Type} {P:Program} {T:TypeId} {m:Nat} {K:Kd α} {z:α} [h:ZK K z] (e:((nY P T).map (·.2.2),Wx P T)=(some (List.replicate m h.cs).flatten,some (m,K.n)):=by kernel_rfl):UB P T m K (List.replicate m z):=by simp only[Prod.mk.injEq] at e;obtain⟨e,e2⟩:=e;obtain⟨⟨k,b,ds⟩,h1,h2⟩:=Jh.1 e;simp only at h2;subst h2;obtain⟨i,v,a1,a2,a3,a4,a5⟩:=qK h1;unfold Wx at e2;split at e2;rename_i k e' hu;obtain⟨ie,b1,b2⟩:=Jh.1 e2;simp only[Prod.mk.injEq] at b2;obtain⟨rfl,b2⟩:=b2;exact⟨i,v,e',ie,a1,a2,hu,b1,b2,by simp,λF=>by rw[a5];exact qq (h.rd F) _⟩;cases e2
theorem bc {i:Nat} {x x' y:β} {f:kJ β} (hf:fs[i]? =some f) (hX:ev E X=some s) (hr:il s f.K (f.get x')) (r:gI E fs ps x' y) (hb:PR x x' fs i:=by simp[PR]):gI E fs ((i,X)::ps) x y:= .cons hf hX hr hb r
abbrev j1:=@Oo
abbrev j2:=@Oq
abbrev j3:=@Ot
abbrev j4:=@Ou
def WZ (E:List (Nat×SV)):List ResultVar→Option (List SV)|[]=>some []| .tmp u::l=>(match look E u,WZ E l with|some s,some ss=>some (s::ss)|_,_=>none)|_=>none
theorem BG:∀{l:List ResultVar} {ss:List SV},WZ E l=some ss→I_ P E l ss|[],_,h=>by cases h;exact .nil| .tmp u::l,ss,h=>by simp only[WZ] at h;split at h;rename_i s t h1 h2;cases h;exact .tm h1 (BG h2);cases h| .cell _ _::_,_,h=>by cases h
section
variable {P:Program} {F0:Fz} {n:Nat} {E:List (Nat×SV)} {L:List bM} {s:SV}
theorem rq {fn:Func} {l:List ResultVar} (hr:fn.results=l.toArray) (h:WZ E l=some ss) (he:oh ss=s) (hL:L=L'):bl F0 n E L (bodyPost P fn (λe w'=>∃G v,e= .returned v∧F0≤G∧St G w' L'∧s.ok G v) .ret):=Oe hr (BG h) he hL
theorem rX {fn:Func} {l:List ResultVar} {ss:List SV} {C:Type} {s:C→SV} {L':C→List bM} (y:C) (hr:fn.results=l.toArray) (h:WZ E l=some ss) (he:oh ss=s y) (hL:L=L' y):bl F0 n E L (bodyPost P fn (λe w'=>∃y G v,e= .returned v∧F0≤G∧St G w' (L' y)∧(s y).ok G v) .ret):=OU y hr (BG h) he hL
end
def VJ (E:List (Nat×SV)) (k:IntKind):List (Nat×Operand)→List Int→Option (List Int)|[],xs=>some xs|(i,X)::ps,xs=>match ev E X,Nat.blt i xs.length with|some (.raw (.int k' y)),true=>if k'=k then VJ E k ps (xs.set i y) else none|_,_=>none
theorem bI:∀{ps:List (Nat×Operand)} {xs ys:List Int},VJ E k ps xs=some ys→c7 E (bD k) ps xs ys|[],xs,ys,h=>by cases h;exact .nil _|(i,X)::ps,xs,ys,h=>by simp only[VJ] at h;split at h;rename_i k' y h1 h2;split at h;rename_i hk;subst hk;exact .cons h2 h1 eB (bI h);cases h;cases h
end Go.Sim
namespace Go.Sim
open Go
theorem n_ (h:(ev E x,Nat.blt d n)=(some s,true)) (k:bl F0 n ((d,s)::E) L K):bl F0 n E L (wpList P ops (Exit.then K Q) [⟨some d,.assign x,ty,pos,aft,none⟩]):=a_ h (nt k)
theorem r_ (h:(ev E x,Nat.blt d n)=(some s,true)) (k:bl F0 n ((d,s)::E) L (R .ret)):bl F0 n E L (wpList P ops (Exit.then (Code.ret.wp P R) Q) [⟨some d,.assign x,ty,pos,aft,none⟩]):=a_ h (nt (rc k))
theorem t_ {y:Code} (h:(ev E x,Nat.blt d n)=(some s,true)) (k:bl F0 n ((d,s)::E) L (wpList P (⟨some d,.move x,ty,pos,aft,none⟩::l).toArray (Exit.then (y.wp P Q) Q) l)):bl F0 n E L ((Code.seq (Code.region iz (⟨some d,.move x,ty,pos,aft,none⟩::l).toArray false) y).wp P Q):=sr (m_ h k)
theorem u_ {y:Code} (h:(ev E x,Nat.blt d n)=(some s,true)) (k:bl F0 n ((d,s)::E) L (wpList P (⟨some d,.assign x,ty,pos,aft,none⟩::l).toArray (Exit.then (y.wp P Q) Q) l)):bl F0 n E L ((Code.seq (Code.region iz (⟨some d,.assign x,ty,pos,aft,none⟩::l).toArray false) y).wp P Q):=sr (a_ h k)
theorem v_ {y:Code} (h:(ev E x,Nat.blt d n)=(some s,true)) (k:bl F0 n ((d,s)::E) L (y.wp P Q)):bl F0 n E L ((Code.seq (Code.region iz [⟨some d,.assign x,ty,pos,aft,none⟩].toArray false) y).wp P Q):=sr (a_ h (nt k))
theorem e_ (k:bl F0 n E L M):bl F0 n E L (Exit.then K (Exit.inBlock iz (Exit.then M Q)) (.exit iz)):=te (bh (tn k))
theorem c_ {c y:Code} (k:bl F0 n E L (c.wp P (Exit.inBlock iz (Exit.then (y.wp P R) R)))):bl F0 n E L (Code.skip.wp P (Exit.then ((Code.seq (Code.block iz c) y).wp P R) Q)):=ct (sq (bk k))
theorem q_ {x y:Code} (k:bl F0 n E L (x.wp P (Exit.then (y.wp P R) R))):bl F0 n E L (wpList P ops (Exit.then ((Code.seq x y).wp P R) Q) []):=nt (sq k)
theorem s_ {x y:Code} (k:bl F0 n E L (wpList P l.toArray (Exit.then (x.wp P (Exit.then (y.wp P Q) Q)) (Exit.then (y.wp P Q) Q)) l)):bl F0 n E L ((Code.seq (Code.seq (Code.region iz l.toArray false) x) y).wp P Q):=sq (sr k)
theorem d_ (h:(ev E x,Nat.blt d n,ev ((d,s)::E) y,Nat.blt e n)=(some s,true,some r,true)) (k:bl F0 n ((e,r)::(d,s)::E) L (wpList P ops Q l)):bl F0 n E L (wpList P ops Q (⟨some d,.assign x,ty,pos,aft,none⟩::⟨some e,.assign y,tz,poz,afz,none⟩::l)):=by simp only[Prod.mk.injEq] at h;exact a_ (by rw[h.1,h.2.1]) (a_ (by rw[h.2.2.1,h.2.2.2]) k)
theorem w_ (h:(ev E x,Nat.blt d n,ev ((d,s)::E) y,Nat.blt e n)=(some s,true,some r,true)) (k:bl F0 n ((e,r)::(d,s)::E) L (wpList P ops Q l)):bl F0 n E L (wpList P ops Q (⟨some d,.move x,ty,pos,aft,none⟩::⟨some e,.move y,tz,poz,afz,none⟩::l)):=by simp only[Prod.mk.injEq] at h;exact m_ (by rw[h.1,h.2.1]) (m_ (by rw[h.2.2.1,h.2.2.2]) k)
theorem l_ (h:(ev E x,Nat.blt d n,ev ((d,s)::E) X,ev ((d,s)::E) Y,QU b i p q,Nat.blt e n)=(some s,true,some (.raw (.int i p)),some (.raw (.int i q)),some v,true)) (h2:(ev ((e,.raw v)::(d,s)::E) z,Nat.blt f n)=(some r,true)) (k:bl F0 n ((f,r)::(e,.raw v)::(d,s)::E) L (R .normal)):bl F0 n E L (Exit.inBlock iz (Exit.then ((Code.region ie [⟨some d,.move x,ty,pos,aft,none⟩,⟨some e,.binOp b t X Y u,tz,poz,afz,none⟩,⟨some f,.assign z,tw,pow,afw,none⟩].toArray false).wp P R) Q) .normal):=Ob (tn (rg (mb h (a_ h2 (nl k)))))
theorem k_ (h:(ev E X,ev E Y,QU b i p q,Nat.blt d n)=(some (.raw (.int i p)),some (.raw (.int i q)),some v,true)) (h2:(ev ((d,.raw v)::E) z,Nat.blt f n)=(some r,true)) (k:bl F0 n ((f,r)::(d,.raw v)::E) L (R .normal)):bl F0 n E L (Exit.inBlock iz (Exit.then ((Code.region ie [⟨some d,.binOp b t X Y u,tz,poz,afz,none⟩,⟨some f,.move z,tw,pow,afw,none⟩].toArray false).wp P R) Q) .normal):=Ob (tn (rg (b_ h (m_ h2 (nl k)))))
end Go.Sim
