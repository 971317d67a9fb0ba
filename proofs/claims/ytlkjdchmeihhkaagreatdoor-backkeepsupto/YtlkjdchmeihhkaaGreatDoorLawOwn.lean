import Derived.Test.YtlkjdchmeihhkaaGreatDoorLawFw
import Derived.Test.YtlkjdchmeihhkaaGreatDoorLawRet
set_option autoImplicit true
set_option relaxedAutoImplicit true
set_option linter.all false
set_option maxRecDepth 20000
set_option maxHeartbeats 1000000
namespace Go.Proofs.YtlkjdchmeihhkaaGreatDoor
open Go Go.Sim
variable [Fu]
def Si {S R a:Type} (g:R→a):md S R→md S a| .next s=> .next s| .done r=> .done (g r)
theorem sY {S R a:Type} {step:S→Option (md S R)} {b:S→Option (md S a)} (g:R→a) (h:∀s,b s=(step s).map (Si g)):∀k s,Loop.iter b k s=(Loop.iter step k s).map g
 |0,s=>rfl
 |k+1,s=>by
  rw[Loop.iter,Loop.iter,h s]
  cases step s with
  |none=>rfl
  |some c=>cases c with
   |next a=>exact sY g h k a
   |done r=>rfl
theorem Ef {S R b:Type} {step:S→Option (md S R)} {a:S→Option (md S b)} (g:R→b) (h:∀s,a s=(step s).map (Si g)) (s:S):Loop.run a s=(Loop.run step s).map g:=by cases e:Loop.run step s with|some r=>obtain⟨k,b⟩:=Ld e;rw[Lc (k:=k) (r:=g r) (by rw[sY g h,b];rfl)];rfl|none=>cases c:Loop.run a s with|none=>rfl|some r=>obtain⟨k,b⟩:=Ld c;rw[sY g h] at b;cases c:Loop.iter step k s with|none=>rw[c] at b;cases b|some q=>rw[Lc c] at e;cases e
theorem vz {S R b T:Type} {step:S→Option (md S R)} {a:S→Option (md S b)} {s0:S} {f:b→Option T} {c:R→Option T} (g:R→b) (h:∀s,a s=(step s).map (Si g)) (b:∀x,f (g x)=c x): ((Loop.run a s0).bind λx=>some x).bind f=((Loop.run step s0).bind λx=>some x).bind c:=by rw[Ef g h];cases Loop.run step s0 with|none=>rfl|some x=>exact b x
theorem ms {α β:Type} {x:Option α} {f g:α→Option β} (h:∀a,f a=g a):x.bind f=x.bind g:=by rw[funext h]
theorem Cy {c:Bool} {α:Type} {a b d e:α} (h1:a=d) (h2:b=e):(bif c then a else b)=bif c then d else e:=by rw[h1,h2]
theorem l9 {α β γ:Type} {x:Option α} {f:α→Option β} {g:β→γ}:(x.bind f).map g=x.bind λa=>(f a).map g:=by cases x<;>rfl
theorem Fw {γ S R:Type} {ps:List γ} {f:γ→S→Option S} {k k':S→Option R} {s0:S} (h:∀s,k s=k' s):mz ps f k s0=mz ps f k' s0:=by rw[funext h]
theorem Eg (b:bg):ir b=iL b:=rfl
theorem BZ (s:aO):gr s=gi s:=by unfold gr gi;refine ms λy=>?_;refine(vz (λx:List aE=>(⟨s.Next,⟨s.Window.Newest,x⟩⟩:aO)) (λq=>?_) (λ_=>rfl)).symm;obtain⟨i,x⟩:=q;dsimp only;cases decide (i<(y.length:Int)) with|true=>rw[Gy,Gy,l9];refine ms λa=>?_;show(bY a.Tags).bind _=_;rw[l9];refine ms λb=>?_;rw[l9];rfl|false=>rfl
theorem Aw (s:aO) (e a:Int):db s e a=df s e a:=by unfold db df;rw[BZ]
theorem Fx (w:aA) (e:Int) (a:List (List Int)) (r:Int):gU w e a r=iK w e a r:=by
 unfold gU iK
 repeat' first
  |refine Cy ?_ ?_
  |refine ms λ_=>?_
  |refine Fw λ_=>?_
  |rfl
 all_goals
  refine(vz (λx:List aE=>(⟨w.Newest,x⟩:aA)) ?_ ?_).symm
  rotate_left
  · exact λ_=>rfl
  rintro⟨x,i⟩
  dsimp only
  cases decide (i<_) with
  | true =>
    rw[Gy,Gy,l9]
    refine ms λa=>?_
    rw[l9]
    rfl
  |false=>rfl
theorem Fy (c:aW) (s:aO) (raw tape:List Int):iR c s raw tape=iD c s raw tape:=by unfold iR iD;simp only[Aw,Fx,Eg]
theorem Ax (c:aW) (s:aO) (raw tape:List Int):dY c s raw tape=fE c s raw tape:=by
 unfold dY fE
 rw[Fy]
 repeat' first
  |refine Cy ?_ ?_
  |refine ms λ_=>?_
  |rfl
 all_goals
  rename_i o b w a a ns
  refine(vz (λx:List Int=>(⟨{b.1.Header with Left:=IntKind.wrap .i64 (c.Left - 1)},(b.1.Cells.length:Int),x,ns⟩:aG)) ?_ ?_).symm
  rotate_left
  · exact λ_=>rfl
  rintro⟨i,x⟩
  dsimp only
  cases decide (i<_) with
  | true =>
    rw[Gy,Gy,l9]
    exact ms λa=>rfl
  |false=>rfl
end Go.Proofs.YtlkjdchmeihhkaaGreatDoor
set_option maxRecDepth 20000
set_option maxHeartbeats 1000000
namespace Go.Proofs.YtlkjdchmeihhkaaGreatDoor
open Go Go.Sim
variable [Fu]
theorem BE (c:aW) (m:aG) (raw:List Int):iM c m raw=fA c m raw:=rfl
theorem xk (b:bg):(lJ b).1.length≤82460:=by unfold lJ;cases !tY b.Header with|true=>simp|false=>rw[Gx];cases a:decide ((b.Cells.length:Int)>256) with|true=>simp|false=>rw[Gx];cases d:b.Cells.all λc=>c.length==320 with|false=>simp|true=>(have e:∀c∈b.Cells,c.length=320:=λc h=>by have:=(Hq.1 d) c h;simpa using this);(have c:b.Cells.length≤256:=by have:=G7 a;omega);simp only[Gy,vj,GD,xr,qe e,dP];omega
theorem xl {α β:Type} {Q:β→Prop} {x:Option α} {f:α→Option β} (h:∀a r,f a=some r→Q r):∀r,x.bind f=some r→Q r:=λr b=>by obtain⟨a,_,c⟩:=OE b;exact h a r c
theorem M_ {β:Type} {Q:β→Prop} {c:Bool} {x y:Option β} (h1:∀r,x=some r→Q r) (h2:∀r,y=some r→Q r):∀r,(bif c then x else y)=some r→Q r:=by cases c;exact h2;exact h1
theorem BF {c:aW} {m:aG} {raw:List Int}:∀r,fA c m raw=some r→r.1.length≤82460:=by unfold fA;(have a:∀x y:Int,∀r:List Int×Int×Int,(some ([],x,y):Option (List Int×Int×Int))=some r→r.1.length≤82460:=λx y r h=>by cases h;simp);refine xl λ_=>M_ (a _ _) (xl λ_=>M_ (a _ _) (xl λ_=>M_ (a _ _) (M_ (a _ _) (M_ (a _ _) (M_ (a _ _) (M_ (a _ _) (xl λ_=>M_ (a _ _) (M_ (xl λ_=>xl λa=>?_) (λr h=>by cases h)))))))));rw[qS];intro r h;simp only[aF] at h;cases h;exact xk a
def il {α:Type} (g:α→α) (xs:List α) (i:Nat):List α:=(xs.take i).map g++xs.drop i
theorem fj {α:Type} {g:α→α} {xs:List α} {i:Nat}:(il g xs i).length=xs.length:=by simp only[il,GD,Hr,G4,Hj];omega
theorem Fj {α:Type} {g:α→α} {xs:List α} {i:Nat} (d:α) (h:i<xs.length):(il g xs i).getD i d=xs.getD i d:=by (have a:((xs.take i).map g).length=i:=by simp;omega);simp only[il,List.getD];rw[Jf (by omega),a,HC];simp
theorem oV {α:Type} {g:α→α} {xs:List α} {i:Nat} (d:α) (h:i<xs.length):(il g xs i).set i (g (xs.getD i d))=il g xs (i+1):=by (have a:((xs.take i).map g).length=i:=by simp;omega);(have b:xs.getD i d=xs[i]:=by simp[List.getD,h]);simp only[il];rw[II _ _ (by omega),a,IZ,Ig h,IX,List.take_add_one,HT,b];simp[h]
theorem ng {α:Type} {g:α→α} {xs:List α}:il g xs 0=xs:=by simp[il]
theorem sQ {m:aG} (h1:m.From.length≤2^20) (h2:m.Nonces.length≤2^20):cY m m=some true:=by unfold cY;(have e:((((m.Header != m.Header)||(m.Count != m.Count))||((m.From.length:Int) != (m.From.length:Int)))||((m.Nonces.length:Int) != (m.Nonces.length:Int)))=false:=by simp[bne,Un]);rw[e,Gx];rw [cb (s0 := (0 : Int)) (r := (.inl () : Unit ⊕ Bool)) (λi => (i : Int)) 0 m.From.length (GX _) ?_ ?_ rfl];simp only[aF];rw [cb (s0 := (0 : Int)) (r := (.inl () : Unit ⊕ Bool)) (λi => (i : Int)) 0 m.Nonces.length (GX _) ?_ ?_ rfl];rfl;intro i _ hi;have hd:decide ((i:Int)<(m.Nonces.length:Int))=true:=Gz (by omega);simp only[hd,Gy];rw[dV [] (i:=i) rfl hi];simp only[aF,GQ,Gx];rw[wrap64 (by omega)];rfl;have hd:decide ((m.Nonces.length:Int)<(m.Nonces.length:Int))=false:=GA (by omega);simp only[hd,Gx];intro i _ hi;have hd:decide ((i:Int)<(m.From.length:Int))=true:=Gz (by omega);simp only[hd,Gy];rw[bP (i:=i) rfl hi];simp only[aF,GQ,Gx];rw[wrap64 (by omega)];rfl;have hd:decide ((m.From.length:Int)<(m.From.length:Int))=false:=GA (by omega);simp only[hd,Gx]
theorem Gm (r:aK):(r==r)=true:=by show((r.In==r.In)&&_)=true;simp
theorem rP {o:aV} (a:fv o.State.Window):dQ o o=some true:=by unfold dQ;rw[BC a,Gm];simp
theorem w8 {c:aW} {s:aO} {raw tape:List Int} (f:fv s.Window) (a:dD .i64 c.Span) (b:raw.length≤2^21) (p:bW raw) (ht:tape.length≤2^21) (h:bW tape): ∃o m,fE c s raw tape=some (o,m)∧fv o.State.Window∧o.Out.length≤82460∧m.From.length≤256∧m.Nonces.length≤256:=by obtain⟨o,m,d,d,e⟩:=yZ (c:=c) (raw:=raw) (tape:=tape) f a b p ht h;refine⟨o,m,d,?_⟩;rcases e with⟨a,rfl⟩|⟨n,L⟩;exact⟨by rw[a.st];exact f,by rw[a.out];simp,by simp,by simp⟩;obtain⟨b,a,acc,F,F,d,q,j,C,D,A,B,r,x,d,k,G,e,E,l,t,i⟩:=n;have L:=L b a q;(have u:dD .i64 b.Header.Epoch:=by show -9223372036854775808≤b.Header.Epoch∧b.Header.Epoch≤9223372036854775807;have:=j.2.2;omega);obtain⟨v,H,w,I⟩:=BD f r u x e l;obtain⟨a,a,a,a,e,e,e,e⟩:=qr k;obtain⟨e,x⟩:=xq d;(have f:(eO c (fo s.Window b.Header.Epoch c.Span).1 b).length=acc.length:=by rw[x,Hr]);(have y:o.Report.Noise=(fF c tape).1:=by rw[i]);(have z:(F.length:Int)=((eO c (fo s.Window b.Header.Epoch c.Span).1 b).length:Int)+o.Report.Noise:=by rw[f,y,a,GD,Hr];omega);rw[←z] at L;have K:=qV (n:=(F.length:Int)) (c:=c.Chunks) h;refine⟨by rw[i];exact v,?_,?_,?_⟩;have:=xk ⟨⟨b.Header.Round,b.Header.Epoch,IntKind.wrap .i64 (c.Left - 1)⟩,(je tape c.Chunks F).1⟩;rw[t] at this;exact this;rw[L];simp only[PI,D5,Hr];omega;rw[L];simp only[PI,qR];omega
theorem UT {α:Type} (xs ys:List α):sub (xs++ys) 0 (xs.length:Int)=some xs:=by unfold sub;(have:(decide ((0:Int)≤0)&&decide ((0:Int)≤(xs.length:Int))&&decide ((xs.length:Int)≤((xs++ys).length:Int)))=true:=by simp;omega);rw[this,Gy];simp
theorem Uf {α:Type} (xs:List α) (x:α) (ys:List α):idx (xs++x::ys) (xs.length:Int)=some x:=by unfold idx;rw[Hv (by omega)];simp
theorem FR {α:Type} (xs:List α) (x y:α) (ys:List α) (h:xs.length<2^40):idx (xs++x::y::ys) (IntKind.wrap .i64 ((xs.length:Int)+1))=some y:=by rw[wrap64 (by omega)];unfold idx;rw[Hv (by omega)];(have:((xs.length:Int)+1).toNat=xs.length+1:=by omega);rw[this,Jf (by omega)];simp
theorem C6 (c:gp=some true):∀(a:dF) (b:dg),la a→js b→ig a+fS b≤1048576→fb a b=some true:=by intro j a b e d;obtain⟨l,n,p,q,_⟩:=b;obtain⟨h,b,i,_⟩:=e;obtain⟨e,e,e,e,_⟩:=b;unfold ig fS at d;(have f:jh j.S.Window≤1048576:=by unfold mW at d;omega);(have b:j.Raw.length≤zM dL j.Raw:=by unfold zM;rw[uQ];omega);(have b:j.Tape.length≤zM dL j.Tape:=by unfold zM;rw[uQ];omega);(have b:a.Raw.length≤zM dL a.Raw:=by unfold zM;rw[uQ];omega);have b:dC=17179869184:=rfl;unfold fb;rw[c];simp only[aF,G9,Gx];cases d:(((decide ((a.M.From.length:Int)>2000))||(decide ((a.M.Nonces.length:Int)>2000)))||(decide ((a.Raw.length:Int)>1048576)))||(decide ((j.Raw.length:Int)>1048576)) with|true=>rfl|false=>simp only[GL,GJ] at d;obtain⟨⟨⟨c,c⟩,c⟩,c⟩:=d;rw[Gx];rw[cf (by rw[b];simp;omega)];simp only[aF,GS];rw[cf (by rw[b];simp;omega)];simp only[aF,GS];rw[cf (by rw[b];simp;omega)];simp only[aF,GS];rw[cf (by rw[b];simp;omega)];simp only[aF,GS];rw[cf (by rw[b];simp;omega)];simp only[aF,GS];rw[cf (by rw[b];simp;omega)];simp only[aF,GS,UT];have c:({({a.M with From:=a.M.From}:aG) with Nonces:=a.M.Nonces}:aG)=a.M:=rfl;obtain⟨r,d,_⟩:=Ds (c:=a.C) (m:=a.M) (raw:=a.Raw) (by omega) (λx s=>i.1 x s) h.2.1 (λx s=>⟨(e.1 x s).2,(e.1 x s).1⟩);have k:=BF r d;simp only[c,BE,d,aF,vh,GQ,Bool.or_self,Gx];rw[sQ (by omega) (by omega)];simp only[aF,G9,Gx,GQ,Uf,FR _ _ _ _ (show a.M.From.length<2^40 by omega),FR _ _ _ _ (show a.M.Nonces.length<2^40 by omega)];rw[cb (s0:=(r.1,(0:Int))) (r:=il (λ_=>1) r.1 r.1.length) (λi=>(il (λ_=>1) r.1 i,(i:Int))) 0 r.1.length (GX _) ?_ ?_ (by rw[ng];rfl)];simp only[aF];rw[cb (r:=il (λ_=>1) r.1 r.1.length++List.replicate 80 2) (λi=>(il (λ_=>1) r.1 r.1.length++List.replicate i 2,(i:Int))) 0 80 (GX _) ?_ ?_ (by simp)];have h:decide (((il (λ_=>(1:Int)) r.1 r.1.length++List.replicate 80 2).length:Int)<80)=false:=GA (by simp;omega);simp only[aF,GQ,h,Bool.or_self,Gx];rw[cf (by rw[b];simp;omega)];simp only[aF,GS,Ax];obtain⟨o,m,a,c,d,d,d⟩:=w8 (c:=j.C) (raw:=j.Raw) (tape:=j.Tape) (EM n.2.1 f) l.2.2.1 (by omega) (λx s=>p.1 x s) (by omega) (λx s=>q.1 x s);have d:(⟨o.Out,(⟨o.State.Next,(⟨o.State.Window.Newest,o.State.Window.Epochs⟩:aA)⟩:aO),o.Report,o.Err,o.At⟩:aV)=o:=rfl;have em:(⟨m.Header,m.Count,m.From,m.Nonces⟩:aG)=m:=rfl;simp only[a,aF,d,em,GQ,Gx,rP c,sQ (m:=m) (by omega) (by omega),G9];rw[cf (by rw[b];simp;omega)];simp only[aF,GS];rw[cf (by rw[b];simp;omega)];simp only[aF,GS];rw[cb (s0:=((0:Int),m.From)) (r:=il (λ_=> -9) m.From m.From.length) (λi=>((i:Int),il (λ_=> -9) m.From i)) 0 m.From.length (GX _) ?_ ?_ (by rw[ng];rfl)];simp only[aF];rw[cb (s0:=((0:Int),m.Nonces)) (r:=il (λ_=>[9,(0:Int),(0:Int),(0:Int),(0:Int),(0:Int),(0:Int),(0:Int),(0:Int),(0:Int),(0:Int),(0:Int),(0:Int),(0:Int),(0:Int),(0:Int)]) m.Nonces m.Nonces.length) (λi=>((i:Int),il (λ_=>[9,(0:Int),(0:Int),(0:Int),(0:Int),(0:Int),(0:Int),(0:Int),(0:Int),(0:Int),(0:Int),(0:Int),(0:Int),(0:Int),(0:Int),(0:Int)]) m.Nonces i)) 0 m.Nonces.length (GX _) ?_ ?_ (by rw[ng];rfl)];simp only[aF];generalize e:il (λ_=>(-9:Int)) m.From m.From.length=X;generalize f:il (λ_=>[9,(0:Int),(0:Int),(0:Int),(0:Int),(0:Int),(0:Int),(0:Int),(0:Int),(0:Int),(0:Int),(0:Int),(0:Int),(0:Int),(0:Int),(0:Int)]) m.Nonces m.Nonces.length=Y;(have l:X.length=m.From.length:=by rw[←e,fj]);(have n:Y.length=m.Nonces.length:=by rw[←f,fj]);rw[cb (s0:=((0:Int),X,Y)) (r:=()) (λi=>((i:Int),X++List.replicate i (-8),Y++List.replicate i [8,(0:Int),(0:Int),(0:Int),(0:Int),(0:Int),(0:Int),(0:Int),(0:Int),(0:Int),(0:Int),(0:Int),(0:Int),(0:Int),(0:Int),(0:Int)])) 0 40 (GX _) ?_ ?_ (by simp)];simp only[aF];rw[cb (s0:=((0:Int),o.Out)) (r:=()) (λi=>((i:Int),il (λ_=>9) o.Out i)) 0 o.Out.length (GX _) ?_ ?_ (by rw[ng];rfl)];simp only[aF];rw[cb (s0:=(j.Raw,(0:Int))) (r:=()) (λi=>(il (λz=>bD .u8 z 85) j.Raw i,(i:Int))) 0 j.Raw.length (GX _) ?_ ?_ (by rw[ng];rfl)];simp only[aF,a,em,d,rP c,sQ (m:=m) (by omega) (by omega),Gy];intro i _ a;have c:decide ((i:Int)<((il (λz=>bD .u8 z 85) j.Raw i).length:Int))=true:=Gz (by rw[fj];omega);simp only[c,Gy];rw[bP (i:=i) rfl (by rw[fj];omega),Fj 0 a];simp only[aF];rw[wrap64 (by omega),←oV (g:=λz=>bD .u8 z 85) 0 a];rfl;have c:decide ((j.Raw.length:Int)<((il (λz=>bD .u8 z 85) j.Raw j.Raw.length).length:Int))=false:=GA (by rw[fj];omega);simp only[c,Gx];intro i _ a;have c:decide ((i:Int)<((il (λ_=>(9:Int)) o.Out i).length:Int))=true:=Gz (by rw[fj];omega);simp only[c,Gy];rw[bP (i:=i) rfl (by rw[fj];omega)];simp only[aF];rw[wrap64 (by omega),←oV (g:=λ_=>(9:Int)) 0 a];rfl;have c:decide ((o.Out.length:Int)<((il (λ_=>(9:Int)) o.Out o.Out.length).length:Int))=false:=GA (by rw[fj];omega);simp only[c,Gx];intro i _ a;have c:decide ((i:Int)<40)=true:=Gz (by omega);simp only[c,Gy];rw[cf (by rw[b];simp;omega)];simp only[aF];rw[cf (by rw[b];simp;omega)];simp only[aF];rw[wrap64 (by omega),GW,GW,←JO,←JO];rfl;rfl;intro i _ a;have c:decide ((i:Int)<((il (λ_=>[9,(0:Int),(0:Int),(0:Int),(0:Int),(0:Int),(0:Int),(0:Int),(0:Int),(0:Int),(0:Int),(0:Int),(0:Int),(0:Int),(0:Int),(0:Int)]) m.Nonces i).length:Int))=true:=Gz (by rw[fj];omega);simp only[c,Gy];rw[dV [] (i:=i) rfl (by rw[fj];omega)];simp only[aF];rw[wrap64 (by omega),←oV (g:=λ_=>[9,(0:Int),(0:Int),(0:Int),(0:Int),(0:Int),(0:Int),(0:Int),(0:Int),(0:Int),(0:Int),(0:Int),(0:Int),(0:Int),(0:Int),(0:Int)]) [] a];rfl;have c:decide ((m.Nonces.length:Int)<((il (λ_=>[9,(0:Int),(0:Int),(0:Int),(0:Int),(0:Int),(0:Int),(0:Int),(0:Int),(0:Int),(0:Int),(0:Int),(0:Int),(0:Int),(0:Int),(0:Int)]) m.Nonces m.Nonces.length).length:Int))=false:=GA (by rw[fj];omega);simp only[c,Gx];intro i _ a;have c:decide ((i:Int)<((il (λ_=>(-9:Int)) m.From i).length:Int))=true:=Gz (by rw[fj];omega);simp only[c,Gy];rw[bP (i:=i) rfl (by rw[fj];omega)];simp only[aF];rw[wrap64 (by omega),←oV (g:=λ_=>(-9:Int)) 0 a];rfl;have c:decide ((m.From.length:Int)<((il (λ_=>(-9:Int)) m.From m.From.length).length:Int))=false:=GA (by rw[fj];omega);simp only[c,Gx];intro i _ a;have c:decide ((i:Int)<80)=true:=Gz (by omega);simp only[c,Gy];rw[cf (by rw[b];simp[fj];omega)];simp only[aF];rw[wrap64 (by omega),GW,←JO];rfl;rfl;intro i _ a;have c:decide ((i:Int)<((il (λ_=>(1:Int)) r.1 i).length:Int))=true:=Gz (by rw[fj];omega);simp only[c,Gy];rw[bP (i:=i) rfl (by rw[fj];omega)];simp only[aF];rw[wrap64 (by omega),←oV (g:=λ_=>(1:Int)) 0 a];rfl;have c:decide ((r.1.length:Int)<((il (λ_=>(1:Int)) r.1 r.1.length).length:Int))=false:=GA (by rw[fj];omega);simp only[c,Gx]
end Go.Proofs.YtlkjdchmeihhkaaGreatDoor
