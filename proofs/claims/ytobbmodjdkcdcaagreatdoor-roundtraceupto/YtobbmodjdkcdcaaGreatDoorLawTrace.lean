import Derived.Test.YtobbmodjdkcdcaaGreatDoorLawAlike
import Derived.Test.YtobbmodjdkcdcaaGreatDoorLawFeedK
set_option linter.all false
set_option maxRecDepth 20000
set_option maxHeartbeats 1000000
namespace Go.Proofs.YtobbmodjdkcdcaaGreatDoor
open Go Go.Sim
variable [Fu]
def m9 (f:List Int→ai×Int) (w:ae) (acc:List ai) (c:List Int):List ai:=bif ((f c).2==0)&& !(hasS w (f c).1.Replay||acc.any λp=>p.Replay==(f c).1.Replay) then acc++[(f c).1] else acc
section
variable {P:Nat→ai×Int} {w:ae}
theorem DA (n:Nat):∀m i,i<m→okS P i=true→hasS w (rpS P i)=true∨(stS P w n m).1.any (λp=>p.Replay==rpS P i)=true|0,i,h,_=>by omega|m+1,i,h,ho=>by (have mono:∀r,(stS P w n m).1.any (λp=>p.Replay==r)=true→(stS P w n (m+1)).1.any (λp=>p.Replay==r)=true:=λr ht=>by unfold stS m7;cases okS P m<;>cases hitS P w m<;>simp only[FJ,FI,List.any_append,ht,Ji]);by_cases e:i=m;subst e;(cases hh:hitS P w i with|false=>right;show(m7 P w (stS P w n i) i).1.any (λp=>p.Replay==rpS P i)=true;unfold m7;rw[ho,hh];simp[rpS]|true=>unfold hitS at hh;rcases Bool.or_eq_true_iff.1 hh with h1|h1;exact .inl h1;unfold anyS at h1;obtain⟨k,hk,h2⟩:=HT.1 h1;simp only[GY,FT,Hj] at hk h2;rw[←h2.2];exact(DA n i k hk h2.1).imp id (mono _));exact(DA n m i (by omega) ho).imp id (mono _)
theorem E4 (n:Nat):∀m p,p∈(stS P w n m).1→∃k,k<m∧okS P k=true∧(P k).1=p|0,p,h=>by cases h|m+1,p,h=>by have ih:=λh=>(E4 n m p h).imp λk hk=>(⟨by omega,hk.2⟩:k<m+1∧_);have h:p∈(m7 P w (stS P w n m) m).1:=h;unfold m7 at h;cases ho:okS P m<;>cases hh:hitS P w m<;>rw[ho,hh] at h<;>simp only[FJ,FI] at h;exact ih h;exact ih h;rcases Gd.1 h with h|h;exact ih h;exact⟨m,by omega,ho,(GA.1 h).symm⟩;exact ih h
theorem DB (n m:Nat):hitS P w m=(hasS w (rpS P m)||(stS P w n m).1.any λp=>p.Replay==rpS P m):=by rw[Gk];unfold hitS;simp only[Hd];constructor;rintro(h|h);exact .inl h;unfold anyS at h;obtain⟨k,hk,h2⟩:=HT.1 h;simp only[GY,FT,Hj] at hk h2;rw[←h2.2];exact DA n m k hk h2.1;rintro(h|h);exact .inl h;obtain⟨p,hp,e⟩:=HT.1 h;obtain⟨k,hk,ho,rfl⟩:=E4 n m p hp;right;unfold anyS;exact HT.2 ⟨k,GY.2 hk,by rw[ho];exact e⟩
theorem xY {f:List Int→ai×Int} {cs:List (List Int)} (hP:P=λi=>f (cs.getD i [])) (n:Nat):∀m,m≤cs.length→(stS P w n m).1=(cs.take m).foldl (m9 f w) []|0,_=>by simp[stS]|m+1,h=>by have ih:=xY hP n m (by omega);have hh:=DB (P:=P) (w:=w) n m;(have e:P m=f cs[m]:=by rw[hP];simp[List.getD,show m<cs.length by omega]);rw[F1 (by omega),GD,GF,Io,←ih];show(m7 P w (stS P w n m) m).1=_;unfold m7 m9;rw[hh];unfold okS rpS;rw[e];cases (f cs[m]).2==0<;>cases (hasS w (f cs[m]).1.Replay||(stS P w n m).1.any λp=>p.Replay==(f cs[m]).1.Replay)<;>rfl
theorem Cz {f:List Int→ai×Int} {cs:List (List Int)} (hP:P=λi=>f (cs.getD i [])) {m:Nat} (h:m<cs.length) (hf:iD P w m≠2):m9 f w ((cs.take m).foldl (m9 f w) []) cs[m]=(cs.take m).foldl (m9 f w) []:=by have ih:=xY (w:=w) hP cs.length m (by omega);have hh:=DB (P:=P) (w:=w) cs.length m;(have e:P m=f cs[m]:=by rw[hP];simp[List.getD,h]);rw[←ih];unfold iD at hf;rw[hh] at hf;unfold okS rpS at hf;rw[e] at hf;unfold m9;revert hf;cases (f cs[m]).2==0<;>cases (hasS w (f cs[m]).1.Replay||(stS P w cs.length m).1.any λp=>p.Replay==(f cs[m]).1.Replay)<;>simp
end
def na (cs:List (List Int)) (kp:Nat→Bool) (m:Nat):List (List Int):=((List.range m).filter kp).map λi=>cs.getD i []
theorem wS (cs:List (List Int)) (kp:Nat→Bool) (m:Nat):na cs kp (m+1)=bif kp m then na cs kp m++[cs.getD m []] else na cs kp m:=by unfold na;rw[Hx,IJ,Gy];cases h:kp m<;>simp[h]
theorem zT (cs:List (List Int)) (kp:Nat→Bool) (m:Nat):(na cs kp m).length≤m:=by unfold na;rw[HN];exact G7 (Hc _ _) (by simp)
theorem DC {cs:List (List Int)} {kp:Nat→Bool}:∀x∈na cs kp cs.length,x∈cs:=by intro x hx;obtain⟨i,hi,rfl⟩:=Gu.1 hx;exact rY (GY.1 (Hg.1 hi).1)
theorem wT {f:List Int→ai×Int} {w:ae} {cs:List (List Int)} {kp:Nat→Bool} (hk:∀i,i<cs.length→kp i=false→iD (λi=>f (cs.getD i [])) w i≠2):∀m,m≤cs.length→(na cs kp m).foldl (m9 f w) []=(cs.take m).foldl (m9 f w) []|0,_=>by simp[na]|m+1,h=>by have ih:=wT hk m (by omega);(have e:cs.getD m []=cs[m]:=by simp[List.getD,show m<cs.length by omega]);rw[wS,F1 (by omega),GD,GF,Io];cases h1:kp m with|true=>rw[FJ,GD,ih,e];rfl|false=>rw[FI,ih,Cz (P:=λi=>f (cs.getD i [])) rfl (by omega) (hk m (by omega) h1)]
theorem wU {c:aC} {w:ae} {b:av} (hr:cO c=some true) (hk:(keyS c.Master b.Header.Epoch).2=0):∃rep,qX c w b=(b.Cells.foldl (m9 (fW (keyS c.Master b.Header.Epoch).1 c.Left) w) [],rep,0):=by unfold qX;rw[hr,hk,GR,Gr,FI,F4,FI,xY (P:=λi=>fW (keyS c.Master b.Header.Epoch).1 c.Left (b.Cells.getD i [])) (f:=fW (keyS c.Master b.Header.Epoch).1 c.Left) (cs:=b.Cells) rfl _ _ (F9 _),Gm];exact⟨_,rfl⟩
theorem zU {s:aN} (hw:dL s.Window):dW s s=some true:=by unfold dW;rw[H9,FJ,yM hw];rfl
theorem uP {o o':aX} (hw:dL o.State.Window) (h:o'.Err=o.Err∧o'.Out=o.Out∧o'.State=o.State∧o'.Report.Noise=o.Report.Noise∧o'.Report.Out=o.Report.Out):bY o' o=some true:=by obtain⟨h1,h2,h3,h4,h5⟩:=h;unfold bY;rw[h1,h2,h3,h4,h5,zU hw];simp
theorem DD {c:aC} {s:aN} {raw raw' tape:List Int} {b b':av} {a a':Int} {rep rep':au} {acc:List ai} {w:ae} (hw:dL s.Window) (hgw:dL w) (ht:tape.length≤2^21) (htb:aL tape) (hck:eM c s=some 0) (hrd:dg raw=some (b,a,0)) (hrd':dg raw'=some (b',a',0)) (hh:b'.Header=b.Header) (hinv:InvH b.Header) (hlen:b.Cells.length≤256) (hlen':b'.Cells.length≤256) (hcb:∀x∈b.Cells,aL x) (hcb':∀x∈b'.Cells,aL x) (hop:oe s.Window b.Header.Epoch c.Span=(w,0)) (hs:qX c w b=(acc,rep,0)) (hs':qX c w b'=(acc,rep',0)): ∃o o',eQ c s raw tape=some o∧eQ c s raw' tape=some o'∧bY o' o=some true:=by (have one:∀(e a e' a':Int),e'=e→∃o o',(cy s e a).bind (λy=>some y)=some o∧(cy s e' a').bind (λy=>some y)=some o'∧bY o' o=some true:=λe a e' a' he=>by rw[pZ hw,pZ hw];exact⟨_,_,rfl,rfl,uP hw ⟨he,rfl,rfl,rfl,rfl⟩⟩);(have hgE:gInt .i64 b.Header.Epoch:=by show -9223372036854775808≤b.Header.Epoch∧b.Header.Epoch≤9223372036854775807;have:=hinv.2.2;omega);obtain⟨q1,q2,q3,q4,q5,q6,q7,q8⟩:=sJ hs hlen;obtain⟨_,_,_,_,_,_,q7',q8'⟩:=sJ hs' hlen';(have hacc:acc.length≤256:=by omega);unfold eQ kS;rw[hck];simp only[ab,F4,FI];rw[hrd,hrd'];simp only[ab,F4,FI,hh];cases h3:b.Header.Left != c.Left with|true=>simp only[FJ,ab];exact one 212 0 212 0 rfl|false=>simp only[FI];cases h4:decide (b.Header.Round<s.Next) with|true=>simp only[FJ,ab];exact one 211 0 211 0 rfl|false=>simp only[FI];rw[sQ hw hgE,hop];simp only[ab,F4,FI];rw[uL hgw.small hcb (by omega),uL hgw.small hcb' (by omega),hs,hs'];simp only[ab,F4,FI];rw[we htb (by omega) hacc];simp only[ab];cases h7:(iC c acc tape).2.2 != 0 with|true=>simp only[FJ,ab];exact one _ 0 _ 0 rfl|false=>have hcov:iC c acc tape=((iC c acc tape).1,(jC c tape).1,0):=AW (by simpa using h7);generalize (iC c acc tape).1=cells at hcov;rw[hcov];simp only[FI];rw[ur htb (by omega)];simp only[ab];cases h8:(lZ tape c.Chunks cells).2 != 0 with|true=>simp only[FJ,ab];exact one _ 0 _ 0 rfl|false=>simp only[FI];rw[zR (λi=>(acc.getD i ⟨[],[]⟩).Replay) acc.length (r:=acc.map (·.Replay)) ?_ ?_];simp only[ab,hh];(have htags:∀t∈acc.map (·.Replay),t.length=16∧aL t:=λt h=>by obtain⟨p,hp,rfl⟩:=Gu.1 h;exact q2 p hp);rw[A9 hgw hgE htags (by simp;omega)];simp only[ab];obtain⟨w2,e,hadd⟩:∃w2 e,addW w b.Header.Epoch (acc.map (·.Replay)) c.Room=(w2,e):=⟨_,_,rfl⟩;rw[hadd];(cases h9:e != 0 with|true=>simp only[FJ,ab];exact one _ 0 _ 0 rfl|false=>(have hg2:dL w2:=by have:=CM hgw (ep:=b.Header.Epoch) (r:=c.Room) htags;rw[hadd] at this;exact this);simp only[FI];rw[AN];simp only[ab];cases h10:(lk ⟨⟨b.Header.Round,b.Header.Epoch,IntKind.wrap .i64 (c.Left - 1)⟩,(lZ tape c.Chunks cells).1⟩).2 != 0 with|true=>simp only[FJ,ab];exact one _ 0 _ 0 rfl|false=>simp only[FI];exact⟨_,_,rfl,rfl,uP hg2 ⟨rfl,rfl,rfl,rfl,rfl⟩⟩);intro i hi;have hd:decide ((i:Int)<(acc.length:Int))=true:=FK (by omega);simp only[hd,FJ];rw[cw hi];simp only[ab];rw[aQ (by rw[dq];simp;omega)];simp only[ab];rw[wrap64 (by omega),←fj];simp[hi];have hd:decide ((acc.length:Int)<(acc.length:Int))=false:=FL (by omega);simp only[hd,FI];rw[wF ⟨[],[]⟩ (λp:ai=>p.Replay)]
end Go.Proofs.YtobbmodjdkcdcaaGreatDoor
set_option maxRecDepth 20000
set_option maxHeartbeats 1000000
namespace Go.Proofs.YtobbmodjdkcdcaaGreatDoor
open Go Go.Sim
variable [Fu]
theorem xZ {c:aC} {s:aN} (hw:dL s.Window):∃z,fN c s=some z∧(z=0→eM c s=some 0∧cO c=some true):=by obtain⟨z0,hz0,hz1⟩:=zF (c:=c) hw;obtain⟨r,hr⟩:=nM c;unfold fN;rw[Dv,hr];simp only[ab];cases hc:((!r)||(decide (s.Next<0)))||(decide (s.Next>4611686018427387904)) with|true=>exact⟨210,rfl,λh=>absurd h (by decide)⟩|false=>simp only[FI];obtain⟨x,hx,hx1⟩:=CK hw (s:=c.Span) (r:=c.Room);rw[hx];simp only[ab];cases hn:x != 0 with|true=>exact⟨210,rfl,λh=>absurd h (by decide)⟩|false=>refine⟨0,rfl,λ_=>?_⟩;obtain⟨a4,a5⟩:=hx1.1 (by simpa using hn);simp only[FU,FW] at hc;(have hr1:r=true:=by simpa using hc.1.1);subst hr1;rw[hz0,hz1.2 ⟨hr,by omega,by omega,a4,a5⟩];exact⟨rfl,rfl⟩
theorem CA {j:bW} (hw:dL j.S.Window) (hr:j.Raw.length≤2^21) (hrb:aL j.Raw): ∃y,fP j=some y∧(y.2.2=false∨∃a w,y.2.2=true∧dg j.Raw=some (y.1,a,0)∧InvH y.1.Header∧y.1.Cells.length≤256∧Good320 y.1.Cells∧eM j.C j.S=some 0∧cO j.C=some true∧oe j.S.Window y.1.Header.Epoch j.C.Span=(w,0)∧dL w∧(keyS j.C.Master y.1.Header.Epoch).2=0∧ y.2.1=(List.range y.1.Cells.length).map (iD (λi=>fW (keyS j.C.Master y.1.Header.Epoch).1 j.C.Left (y.1.Cells.getD i [])) w)):=by obtain⟨rd,hrd,hrd0,_,_⟩:=rR (raw:=j.Raw) (by omega) hrb;have he:=ud (raw:=j.Raw) (by omega) hrb;rw[hrd] at he;have he:=Option.some.inj he;unfold fP;rw[xu (by omega) hrb,←he,hrd];obtain⟨b,a,e⟩:=rd;obtain⟨z,hz,hz0⟩:=xZ (c:=j.C) hw;simp only[ab];cases h1:e != 0 with|true=>exact⟨_,rfl,.inl rfl⟩|false=>(have:e=0:=by simpa using h1);subst this;obtain⟨hinv,hlen,h320⟩:=hrd0 rfl;simp only at hinv hlen h320;simp only[FI];rw[hz];simp only[ab];cases h2:z != 0 with|true=>exact⟨_,rfl,.inl rfl⟩|false=>(have hgE:gInt .i64 b.Header.Epoch:=by show -9223372036854775808≤b.Header.Epoch∧b.Header.Epoch≤9223372036854775807;have:=hinv.2.2;omega);simp only[FI];rw[sQ hw hgE,Bx];simp only[ab];cases h3:((oe j.S.Window b.Header.Epoch j.C.Span).2 != 0)||((keyS j.C.Master b.Header.Epoch).2 != 0) with|true=>exact⟨_,rfl,.inl rfl⟩|false=>simp only[FU] at h3;(have k2:(keyS j.C.Master b.Header.Epoch).2=0:=by simpa using h3.2);(have k1:(oe j.S.Window b.Header.Epoch j.C.Span).2=0:=by simpa using h3.1);have hg:=Bb hw hgE (s:=j.C.Span);obtain⟨c1,c2⟩:=hz0 (by simpa using h2);simp only[FI];rw[zO (uv k2) hg.small (λx hx=>(h320 x hx).2) (by omega)];exact⟨_,rfl,.inr ⟨a,(oe j.S.Window b.Header.Epoch j.C.Span).1,rfl,rfl,hinv,hlen,h320,c1,c2,by simp only;rw[←k1],hg,k2,rfl⟩⟩
theorem wV {h:af} {cs:List (List Int)} (hi:InvH h) (hn:cs.length≤256) (hc:∀x∈cs,x.length=320):lk ⟨h,cs⟩=(sI ⟨h,cs⟩,0):=by (have hf:pW h=true:=by unfold pW;unfold InvH at hi;simp;omega);(have ha:(cs.all λc=>c.length==320)=true:=GM.2 λx hx=>by simp[hc x hx]);unfold lk;simp only[hf,Gr,FI,ha,FJ];rw[FL (by omega)];rfl
theorem DE (x:Int):0≤IntKind.u64.wrap x:=by (have:IntKind.u64.wrap x=x%18446744073709551616:=by simp[IntKind.wrap,IntKind.bits,IntKind.signed]);rw[this];omega
def badL:List Int:=List.set (List.replicate 320 (0:Int)) 319 1
theorem BC:badL.length=320∧aL badL:=by refine⟨by simp[badL],λx hx=>?_⟩;rcases Iw hx with h|h;have:=(List.mem_replicate.1 h).2;omega;omega
theorem A5 (aw:eu=some true) {j:bW} {drop at_:Int} (hw:dL j.S.Window) (hr:j.Raw.length≤2^21) (hrb:aL j.Raw) (ht:j.Tape.length≤2^21) (htb:aL j.Tape):
   cW j drop at_=some true:=by
 unfold cW
 rw[aw]
 simp only[ab,Gr,FI]
 obtain⟨y,hy,hyc⟩:=CA hw hr hrb
 rw[hy]
 simp only[ab]
 rcases hyc with h0|⟨a,w,h0,hrd,hinv,hlen,h320,hck,hright,hop,hgw,hkey,hf⟩
 · rw[h0];rfl
 · obtain⟨b,fl,ok⟩:=y
   simp only at h0 hrd hinv hlen h320 hop hkey hf
   subst h0
   simp only[Gr,FI]
   obtain⟨F,hF⟩:∃F,F=fW (keyS j.C.Master b.Header.Epoch).1 j.C.Left:=⟨_,rfl⟩
   obtain⟨rep,hs⟩:=wU (c:=j.C) (w:=w) (b:=b) hright hkey
   have hfe:fl=(List.range b.Cells.length).map (iD (λi=>F (b.Cells.getD i [])) w):=by rw[hf,hF]
   rw[←hF] at hs
   -- any batch with the same header of which the same is fresh
   have again:∀cs:List (List Int),cs.length≤256→(∀x∈cs,x.length=320∧aL x)→cs.foldl (m9 F w) []=b.Cells.foldl (m9 F w) []→
      ∃o o',eQ j.C j.S j.Raw j.Tape=some o∧dV ⟨b.Header,cs⟩=some (sI ⟨b.Header,cs⟩,0)∧eQ j.C j.S (sI ⟨b.Header,cs⟩) j.Tape=some o'∧bY o' o=some true:=λcs h1 h2 h3=>by
     have hp:=wV (cs:=cs) hinv h1 λx hx=>(h2 x hx).1
     obtain⟨rep',hs'⟩:=wU (c:=j.C) (w:=w) (b:=⟨b.Header,cs⟩) hright hkey
     simp only at hs'
     rw[←hF,h3] at hs'
     obtain⟨o,o',e1,e2,e3⟩:=DD (b':=⟨b.Header,cs⟩) hw hgw ht htb hck hrd (uy hinv h1 λx hx=>(h2 x hx).1) rfl hinv hlen h1 (λx hx=>(h320 x hx).2) (λx hx=>(h2 x hx).2) hop hs hs'
     exact⟨o,o',e1,by rw[zg _ λx hx=>(h2 x hx).2,hp],e2,e3⟩
   obtain⟨kp,hkp⟩:∃kp:Nat→Bool,kp=λi=>(iD (λi=>F (b.Cells.getD i [])) w i==2)||((andI .u64 (shrI .u64 drop (IntKind.wrap .u64 (andI .i64 (i:Int) 63))) 1)==0):=⟨_,rfl⟩
   have hroom:room=17179869184:=rfl
   obtain⟨o,o1,e1,e2,e3,e4⟩:=again (na b.Cells kp b.Cells.length) (G7 (zT _ _ _) hlen) (λx hx=>h320 x (DC x hx)) (by
     rw[wT (f:=F) (w:=w) (kp:=kp) ?_ _ (F9 _),Gm]
     intro i _ hi
     rw[hkp] at hi
     simp only[FU] at hi
     simpa using hi.1)
   rw[e1]
   simp only[ab]
   rw[aP (s0:=((0:Int),([]:List (List Int)))) (r:=(⟨b.Header,na b.Cells kp b.Cells.length⟩:av)) (λi=>((i:Int),na b.Cells kp i)) 0 b.Cells.length (Gi _) ?_ ?_ (by simp[na])]
   · simp only[ab]
     rw[e2]
     simp only[ab,F4,FI]
     rw[e3]
     simp only[ab]
     rw[e4]
     simp only[ab,Gr,FI]
     cases h256:decide ((b.Cells.length:Int)≥256) with
     |true=>rfl
     |false=>
      have h256:=F5 h256
      simp only[FI]
      obtain⟨k,hk,hk1⟩:∃k:Nat,((bif (decide (at_<0))||(decide (at_>(b.Cells.length:Int))) then some 0 else some at_:Option Int))=some (k:Int)∧k≤b.Cells.length:=by
       cases hc:(decide (at_<0))||(decide (at_>(b.Cells.length:Int))) with
       |true=>exact⟨0,rfl,by omega⟩
       | false =>
         simp only[FU,FW] at hc
         exact⟨at_.toNat,by rw[FI,Int.toNat_of_nonneg (by omega)],by omega⟩
      rw[hk]
      simp only[ab]
      rw[show mkB 320 320=true from oU (n:=320) (by omega),FJ]
      have hbd:List.set (List.replicate (Int.toNat 320) (0:Int)) (Int.toNat 319) 1=badL:=rfl
      rw[hbd,ar (xs:=List.replicate (Int.toNat 320) (0:Int)) (z:=319) (i:=319) rfl (by simp)]
      simp only[ab]
      rw[lQ (j:=k) rfl hk1]
      simp only[ab]
      rw[aQ (by simp;omega)]
      simp only[ab]
      rw[aQ (by simp;omega)]
      simp only[ab]
      rw[m8 (i:=k) rfl hk1]
      simp only[ab]
      rw[aQ (by simp;omega),F8]
      simp only[ab]
      have hml:(b.Cells.take k++[badL]++b.Cells.drop k).length≤256:=by simp;omega
      have hmm:∀x∈b.Cells.take k++[badL]++b.Cells.drop k,x.length=320∧aL x:=λx hx=>by
       rcases Gd.1 hx with hx|hx
       · rcases Gd.1 hx with hx|hx
         · exact h320 x (Gv hx)
         · rw[GA.1 hx];exact BC
       · exact h320 x (HJ hx)
      rw[zg _ λx hx=>(hmm x hx).2,wV hinv hml λx hx=>(hmm x hx).1]
      simp only[ab,F4,FI]
      rw[Bx]
      simp only[ab]
      rw[zO (w:=⟨0,[]⟩) (cs:=[badL]) (uv hkey) ⟨by simp,by simp⟩ (λx hx=>by rw[GA.1 hx];exact BC.2) (by simp)]
      simp only[ab]
      have hi0:idx ((List.range [badL].length).map (iD (λi=>fW (keyS j.C.Master b.Header.Epoch).1 j.C.Left ([badL].getD i [])) ⟨0,[]⟩)) 0=some (iD (λi=>fW (keyS j.C.Master b.Header.Epoch).1 j.C.Left ([badL].getD i [])) ⟨0,[]⟩ 0):=rfl
      rw[hi0]
      simp only[ab]
      cases hodd:iD (λi=>fW (keyS j.C.Master b.Header.Epoch).1 j.C.Left ([badL].getD i [])) ⟨0,[]⟩ 0 != 0 with
      |true=>rfl
      |false=>
       have hb0:((F badL).2==0)=false:=by
         have hodd:iD (λi=>fW (keyS j.C.Master b.Header.Epoch).1 j.C.Left ([badL].getD i [])) ⟨0,[]⟩ 0=0:=by simpa using hodd
         have:=zM (λi=>fW (keyS j.C.Master b.Header.Epoch).1 j.C.Left ([badL].getD i [])) ⟨0,[]⟩ 0
         rw[hodd] at this
         rw[hF]
         exact this.symm
       obtain⟨o',o2,g1,g2,g3,g4⟩:=again (b.Cells.take k++[badL]++b.Cells.drop k) hml hmm (by
         have:∀acc,m9 F w acc badL=acc:=λacc=>by unfold m9;rw[hb0];rfl
         rw[GD,GD,GF,Io,this,←GD,GJ])
       rw[e1] at g1
       cases g1
       simp only[FI]
       rw[g3]
       simp only[ab]
       rw[g4]
       rfl
   · intro i _ hi
     have h1:decide ((i:Int)<(b.Cells.length:Int))=true:=FK (by omega)
     have e:fl.getD i 0=iD (λi=>F (b.Cells.getD i [])) w i:=by rw[hfe];simp[List.getD,GO hi]
     have hll:=zT b.Cells kp i
     simp only[h1,FJ]
     rw[ar (i:=i) rfl (by rw[hfe];simpa using hi),e]
     simp only[ab,FK (DE _),FJ]
     have hk:((bif iD (λi=>F (b.Cells.getD i [])) w i==2 then some true else some ((andI .u64 (shrI .u64 drop (IntKind.wrap .u64 (andI .i64 (i:Int) 63))) 1)==0)):Option Bool)=some (kp i):=by
      rw[hkp]
      dsimp only
      cases iD (λi=>F (b.Cells.getD i [])) w i==2<;>rfl
     rw[hk,wS]
     simp only[ab]
     cases kp i with
     |true=>
      simp only[FJ]
      rw[du [] (i:=i) rfl hi]
      simp only[ab]
      rw[aQ (by simp only[F2,Gg];omega)]
      simp only[ab]
      rw[wrap64 (by omega)];rfl
     |false=>
      simp only[FI,ab]
      rw[wrap64 (by omega)];rfl
   · have h1:decide ((b.Cells.length:Int)<(b.Cells.length:Int))=false:=FL (by omega)
     simp only[h1,FI]
theorem CB (aw:eu=some true):∀(x0:bW) (x1:Int) (x2:Int),kK x0→(gInt .u64) x1→(gInt .i64) x2→gv x0+bOne x1+bOne x2≤1048576→cW x0 x1 x2=some true:=by intro j drop at_ hg _ _ hb;obtain⟨gC,gS,gR,gT,_⟩:=hg;unfold gv at hb;(have hbs:i8 j.S.Window≤1048576:=by unfold mM at hb;omega);(have hR:j.Raw.length≤bSl bOne j.Raw:=by unfold bSl;rw[yd];omega);(have hT:j.Tape.length≤bSl bOne j.Tape:=by unfold bSl;rw[yd];omega);exact A5 aw (DQ gS.2.1 hbs) (by omega) (λx hx=>gR.1 x hx) (by omega) (λx hx=>gT.1 x hx)
end Go.Proofs.YtobbmodjdkcdcaaGreatDoor
