import Derived.Test.YtobbmodjdkcdcaaGreatDoorLawRound
set_option linter.all false
set_option maxRecDepth 20000
set_option maxHeartbeats 1000000
namespace Go.Proofs.YtobbmodjdkcdcaaGreatDoor
open Go Go.Sim
variable [Fu]
def lB (c:aC) (t:List Int):aT×Int:=lC t c.Chunks
def jC (c:aC) (t:List Int):Int×Int:=xM (lB c t).1.Noise c.Num c.Den c.Noise
def qi (c:aC) (t:List Int):List (List Int)×Int:=rS (lB c t).1.Noise (jC c t).1 (IntKind.wrap .i64 (c.Left - 1))
def iC (c:aC) (acc:List ai) (t:List Int):List (List Int)×Int×Int:=bif (lB c t).2 != 0 then([],0,(lB c t).2) else bif (jC c t).2 != 0 then([],0,(jC c t).2) else bif decide ((IntKind.wrap .i64 ((acc.length:Int)+(jC c t).1))>256) then([],0,213) else bif (qi c t).2 != 0 then([],0,(qi c t).2) else(acc.map (·.Cell)++(qi c t).1,(jC c t).1,0)
theorem qS {c:aC} {t:List Int} (hb:aL t):aL (lB c t).1.Noise:=by unfold lB lC;cases decide (c.Chunks<1)||decide (c.Chunks>64) with|true=>exact λb hb=>(by cases hb)|false=>cases decide ((t.length:Int)<18) with|true=>exact λb hb=>(by cases hb)|false=>exact(mx hb _).1
theorem AU {ns:List Int} {k l:Int}:(rS ns k l).1.length≤16:=by unfold rS;cases h:(((decide (k<0))||(decide (k>16)))||(decide (l<0)))||(decide (l>7)) with|true=>simp|false=>simp only[FU,FW] at h;cases decide ((ns.length:Int)<18) with|true=>simp|false=>simp;omega
theorem wF {α β:Type} (d:α) (f:α→β) (l:List α):(List.range l.length).map (λi=>f (l.getD i d))=l.map f:=by apply G3 (by simp);intro i h1 h2;simp at h1;simp[h1]
theorem we {c:aC} {acc:List ai} {t:List Int} (hb:aL t) (ht:t.length<2^30) (ha:acc.length≤256):ip c acc t=some (iC c acc t):=by unfold ip iC;rw[uO (by omega)];simp only[ab];show(bif (lB c t).2 != 0 then _ else _)=_;cases h1:(lB c t).2 != 0 with|true=>rfl|false=>simp only[FI];rw[show lC t c.Chunks=lB c t from rfl,zj (qS hb)];simp only[ab];rw[show xM (lB c t).1.Noise c.Num c.Den c.Noise=jC c t from rfl];cases h2:(jC c t).2 != 0 with|true=>rfl|false=>simp only[FI];cases h3:decide ((IntKind.wrap .i64 ((acc.length:Int)+(jC c t).1))>256) with|true=>rfl|false=>simp only[FI];rw[zk (qS hb)];simp only[ab];rw[show rS (lB c t).1.Noise (jC c t).1 (IntKind.wrap .i64 (c.Left - 1))=qi c t from rfl];have hn:(qi c t).1.length≤16:=AU;cases h4:(qi c t).2 != 0 with|true=>rfl|false=>simp only[FI];rw[zR (λi=>(acc.getD i ⟨[],[]⟩).Cell) acc.length (r:=acc.map (·.Cell)) ?_ ?_];simp only[ab];rw[aQ (by rw[dq];simp;omega)];rfl;intro i hi;have hd:decide ((i:Int)<(acc.length:Int))=true:=FK (by omega);simp only[hd,FJ];rw[cw hi];simp only[ab];rw[aQ (by rw[dq];simp;omega)];simp only[ab];rw[wrap64 (by omega),←fj];simp[hi];have hd:decide ((acc.length:Int)<(acc.length:Int))=false:=FL (by omega);simp only[hd,FI];rw[wF ⟨[],[]⟩ (λp:ai=>p.Cell)]
theorem AV {t:List Int} {n c:Int} (hb:aL t):(mS t n c).1.length≤256:=by unfold mS;cases hr:qW t n c with|inl e=>simp|inr r=>have ok:=zy hb hr;have h1:=ok.pk;have h2:=ok.n0;show(ordL _ _ _ _).length≤256;rw[zx];omega
def lZ (t:List Int) (c:Int) (xs:List (List Int)):List (List Int)×Int:=bif (mS t xs.length c).2 != 0 then([],(mS t xs.length c).2) else bif decide ((mS t xs.length c).1.length≠xs.length)|| !zr (mS t xs.length c).1 then([],110) else(By (mS t xs.length c).1 xs,0)
theorem ur {t:List Int} {c:Int} {xs:List (List Int)} (hb:aL t) (hl:t.length<2^30):gF t c xs=some (lZ t c xs):=by unfold gF lZ;rw[xU hb hl];simp only[ab];have:=AV (n:=(xs.length:Int)) (c:=c) hb;cases (mS t xs.length c).2 != 0 with|true=>rfl|false=>simp only[FI];rw[A3 (by omega)];simp only[ab]
theorem AW {c:aC} {acc:List ai} {t:List Int} (h:(iC c acc t).2.2=0):iC c acc t=((iC c acc t).1,(jC c t).1,0):=by unfold iC at h⊢;cases h1:(lB c t).2 != 0 with|true=>rw[h1,FJ] at h;simp only at h;rw[h] at h1;cases h1|false=>rw[h1,FI] at h;cases h2:(jC c t).2 != 0 with|true=>rw[h2,FJ] at h;simp only at h;rw[h] at h2;cases h2|false=>rw[h2,FI] at h;cases h3:decide ((IntKind.wrap .i64 ((acc.length:Int)+(jC c t).1))>256) with|true=>rw[h3,FJ] at h;cases h|false=>rw[h3,FI] at h;cases h4:(qi c t).2 != 0 with|true=>rw[h4,FJ] at h;simp only at h;rw[h] at h4;cases h4|false=>rfl
structure FH (c:aC) (s:aN) (raw tape:List Int) (o:aX):Prop where
 ex:∃b a acc rep cells w2,
  dg raw=some (b,a,0)∧InvH b.Header∧b.Cells.length≤256∧Good320 b.Cells∧b.Header.Left=c.Left∧s.Next≤b.Header.Round∧
  eM c s=some 0∧(oe s.Window b.Header.Epoch c.Span).2=0∧qX c (oe s.Window b.Header.Epoch c.Span).1 b=(acc,rep,0)∧
  iC c acc tape=(cells,(jC c tape).1,0)∧(lZ tape c.Chunks cells).2=0∧
  (∀t∈acc.map (·.Replay),t.length=16∧aL t)∧acc.length≤256∧
  addW (oe s.Window b.Header.Epoch c.Span).1 b.Header.Epoch (acc.map (·.Replay)) c.Room=(w2,0)∧
  lk ⟨⟨b.Header.Round,b.Header.Epoch,IntKind.wrap .i64 (c.Left - 1)⟩,(lZ tape c.Chunks cells).1⟩=(o.Out,0)∧
  o=⟨o.Out,⟨IntKind.wrap .i64 (b.Header.Round+1),w2⟩,{{rep with Noise:=(jC c tape).1} with Out:=((lZ tape c.Chunks cells).1.length:Int)},0,0⟩
structure FG (s:aN) (raw:List Int) (o:aX):Prop where
 out:o.Out=[]
 st:o.State=s
 rep:o.Report=⟨0,0,0,0,0⟩
 err:o.Err≠0
 at_:0≤o.At∧o.At≤raw.length
theorem sJ {c:aC} {w:ae} {b:av} {acc:List ai} {rep:au} (h:qX c w b=(acc,rep,0)) (hn:b.Cells.length≤256): cO c=some true∧(∀p∈acc,p.Replay.length=16∧aL p.Replay)∧(acc.length:Int)+rep.Malformed+rep.Replays=b.Cells.length∧0≤rep.Malformed∧0≤rep.Replays∧rep.In=b.Cells.length∧rep.Noise=0∧rep.Out=0:=by obtain⟨r,hr⟩:=nM c;unfold qX at h;rw[hr,GR] at h;cases r with|false=>simp at h|true=>rw[Gr,FI] at h;cases hk:(keyS c.Master b.Header.Epoch).2 != 0 with|true=>rw[hk,FJ] at h;have e:(keyS c.Master b.Header.Epoch).2=0:=(Prod.mk.inj (Prod.mk.inj h).2).2;rw[e] at hk;cases hk|false=>rw[hk,FI] at h;obtain⟨e1,e2⟩:=Prod.mk.inj h;obtain⟨e2,_⟩:=Prod.mk.inj e2;have hc:=Du (P:=λi=>fW (keyS c.Master b.Header.Epoch).1 c.Left (b.Cells.getD i [])) (w:=w) b.Cells.length b.Cells.length (by omega);have ha:=Dt (P:=λi=>fW (keyS c.Master b.Header.Epoch).1 c.Left (b.Cells.getD i [])) (w:=w) (λi h=>zz h) b.Cells.length b.Cells.length;rw[e1,e2] at hc;rw[e1] at ha;exact⟨hr,ha,hc⟩
end Go.Proofs.YtobbmodjdkcdcaaGreatDoor
