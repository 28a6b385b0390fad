/- What leads where in an automaton: languages of nodes. -/
import Derived.Test.YtopngokkgogolaaKSpEnds
set_option linter.unusedVariables false
set_option linter.unusedSimpArgs false
namespace Go.VS
abbrev B3:=List UInt8→Nat→Nat→Prop
inductive ToN (A:List State) (s:List UInt8):Nat→Nat→Nat→Nat→Prop
 |acc {q i:Nat} (h:(A.getD q Al).1=4):ToN A s 0 q i i
 |eps {n q q' i j:Nat} (e:Fw A (i==0) (i==s.length) q q') (h:ToN A s n q' i j):ToN A s (n+1) q i j
 |read {n q q' i j:Nat} (hi:i<s.length) (r:rdR A (s.getD i 0) q q') (h:ToN A s n q' (i+1) j):ToN A s (n+1) q i j
def Leads(A:List State)(R:B3)(d nx:Nat):Prop:=∀s,(∀n i j,ToN A s n d i j→∃m n',n'≤n∧R s i m∧ToN A s n' nx m j)∧(∀i m j n,R s i m→ToN A s n nx m j→∃n',ToN A s n' d i j)
def idR:B3:=fun _ i j=>i=j
def Mu(R S:B3):B3:=fun s i j=>∃m,R s i m∧S s m j
def Vd(R S:B3):B3:=fun s i j=>R s i j∨S s i j
def OP(R:B3):Nat→B3
 |0=>idR
 |n+1=>Mu R (OP R n)
def PF(R:B3):B3:=fun s i j=>∃n,OP R n s i j
theorem Leads.id{A:List State}{q:Nat}:Leads A idR q q:=fun s=>⟨fun n i j h=>⟨i,n,Nat.le_refl _,rfl,h⟩,fun i m j n hr h=>by cases hr;exact⟨n,h⟩⟩
theorem Leads.comp{A:List State}{R S:B3}{d m nx:Nat}(h1:Leads A R d m)(h2:Leads A S m nx):Leads A (Mu R S) d nx:=by
 intro s
 refine⟨fun n i j h=>?_,fun i k j n hr h=>?_⟩
 ·obtain⟨m1,n1,l1,r1,t1⟩:=(h1 s).1 _ _ _ h
  obtain⟨m2,n2,l2,r2,t2⟩:=(h2 s).1 _ _ _ t1
  exact⟨m2,n2,by omega,⟨m1,r1,r2⟩,t2⟩
 ·obtain⟨m1,r1,r2⟩:=hr
  obtain⟨n1,t1⟩:=(h2 s).2 _ _ _ _ r2 h
  exact(h1 s).2 _ _ _ _ r1 t1
theorem Leads.congr{A:List State}{R S:B3}{d nx:Nat}(h:Leads A R d nx)(e:∀s i j,R s i j↔S s i j):Leads A S d nx:=by
 intro s
 refine⟨fun n i j ht=>?_,fun i k j n hr ht=>(h s).2 _ _ _ _ ((e _ _ _).2 hr) ht⟩
 obtain⟨m1,n1,l1,r1,t1⟩:=(h s).1 _ _ _ ht
 exact⟨m1,n1,l1,(e _ _ _).1 r1,t1⟩
theorem F8{A:List State}{d a b:Nat}{w:GK}(hd:A.getD d Al=((1:Int),(w,((a:Int),(b:Int))))){s:List UInt8}{n i j:Nat}:ToN A s n d i j↔∃k,n=k+1∧(ToN A s k a i j∨ToN A s k b i j):=by
 constructor
 ·intro h
  cases h with
  |acc h=>rw[hd]at h;simp at h
  |eps e h=>
   rename_i k q'
   refine⟨k,rfl,?_⟩
   unfold Fw at e
   rw[hd]at e
   rcases e with⟨_,e|e⟩|⟨e,_⟩|⟨e,_⟩
   ·left;have:q'=a:=by simpa using e
    rw[←this];exact h
   ·right;have:q'=b:=by simpa using e
    rw[←this];exact h
   ·simp at e
   ·simp at e
  |read hi r h=>
   obtain⟨r,_⟩:=r
   rw[hd]at r;simp at r
 ·rintro⟨k,rfl,h|h⟩
  ·exact .eps (.inl (by rw[hd];exact⟨rfl,.inl (by simp)⟩)) h
  ·exact .eps (.inl (by rw[hd];exact⟨rfl,.inr (by simp)⟩)) h
theorem Leads.split{A:List State}{R S:B3}{d a b nx:Nat}{w:GK}(hd:A.getD d Al=((1:Int),(w,((a:Int),(b:Int)))))(h1:Leads A R a nx)(h2:Leads A S b nx):Leads A (Vd R S) d nx:=by
 intro s
 refine⟨fun n i j h=>?_,fun i k j n hr h=>?_⟩
 ·obtain⟨k,rfl,h|h⟩:=(F8 hd).1 h
  ·obtain⟨m1,n1,l1,r1,t1⟩:=(h1 s).1 _ _ _ h
   exact⟨m1,n1,by omega,.inl r1,t1⟩
  ·obtain⟨m1,n1,l1,r1,t1⟩:=(h2 s).1 _ _ _ h
   exact⟨m1,n1,by omega,.inr r1,t1⟩
 ·rcases hr with hr|hr
  ·obtain⟨n1,t1⟩:=(h1 s).2 _ _ _ _ hr h
   exact⟨_,(F8 hd).2 ⟨n1,rfl,.inl t1⟩⟩
  ·obtain⟨n1,t1⟩:=(h2 s).2 _ _ _ _ hr h
   exact⟨_,(F8 hd).2 ⟨n1,rfl,.inr t1⟩⟩
theorem Leads.star{A:List State}{R:B3}{d a nx:Nat}{w:GK}(hd:A.getD d Al=((1:Int),(w,((a:Int),(nx:Int)))))(h1:Leads A R a d):Leads A (PF R) d nx:=by
 intro s
 refine⟨fun n=>?_,?_⟩
 ·induction n using Nat.strongRecOn with
  |ind n ih=>
   intro i j h
   obtain⟨k,rfl,h|h⟩:=(F8 hd).1 h
   ·obtain⟨m1,n1,l1,r1,t1⟩:=(h1 s).1 _ _ _ h
    obtain⟨m2,n2,l2,⟨r,r2⟩,t2⟩:=ih n1 (by omega) _ _ t1
    exact⟨m2,n2,by omega,⟨r+1,m1,r1,r2⟩,t2⟩
   ·exact⟨i,k,by omega,⟨0,rfl⟩,h⟩
 ·rintro i m j n ⟨r,hr⟩ h
  induction r generalizing i with
  |zero=>
   cases hr
   exact⟨_,(F8 hd).2 ⟨n,rfl,.inr h⟩⟩
  |succ r ih=>
   obtain⟨m1,r1,r2⟩:=hr
   obtain⟨n1,t1⟩:=ih _ r2
   obtain⟨n2,t2⟩:=(h1 s).2 _ _ _ _ r1 t1
   exact⟨_,(F8 hd).2 ⟨n2,rfl,.inl t2⟩⟩
def YH(w:GK):B3:=fun s i j=>i<s.length∧SG w ((s.getD i 0).toNat:Int)=true∧j=i+1
theorem Leads.set{A:List State}{d nx:Nat}{w:GK}{o:Int}(hd:A.getD d Al=((0:Int),(w,((nx:Int),o)))):Leads A (YH w) d nx:=by
 intro s
 refine⟨fun n i j h=>?_,?_⟩
 ·cases h with
  |acc h=>rw[hd]at h;simp at h
  |eps e h=>
   unfold Fw at e
   rw[hd]at e
   rcases e with⟨e,_⟩|⟨e,_⟩|⟨e,_⟩<;>simp at e
  |read hi r h=>
   rename_i k q'
   obtain⟨r1,r2,r3⟩:=r
   rw[hd]at r2 r3
   have:q'=nx:=by simpa using r3
   subst this
   exact⟨i+1,k,by omega,⟨hi,r2,rfl⟩,h⟩
 ·rintro i m j n ⟨r1,r2,rfl⟩ h
  exact⟨_,.read r1 ⟨by rw[hd],by rw[hd];exact r2,by rw[hd];simp⟩ h⟩
def stR:B3:=fun _ i j=>i=0∧j=0
def enR:B3:=fun s i j=>i=s.length∧j=s.length
theorem Leads.st{A:List State}{d nx:Nat}{w:GK}{o:Int}(hd:A.getD d Al=((2:Int),(w,((nx:Int),o)))):Leads A stR d nx:=by
 intro s
 refine⟨fun n i j h=>?_,?_⟩
 ·cases h with
  |acc h=>rw[hd]at h;simp at h
  |eps e h=>
   rename_i k q'
   unfold Fw at e
   rw[hd]at e
   rcases e with⟨e,_⟩|⟨_,e,e2⟩|⟨e,_⟩
   ·simp at e
   ·have:q'=nx:=by simpa using e2
    subst this
    have e:i=0:=by simpa using e
    exact⟨i,k,by omega,⟨e,e⟩,h⟩
   ·simp at e
  |read hi r h=>
   obtain⟨r1,r2,r3⟩:=r
   rw[hd]at r1;simp at r1
 ·rintro i m j n ⟨rfl,rfl⟩ h
  exact⟨_,.eps (.inr (.inl ⟨by rw[hd],by simp,by rw[hd];simp⟩)) h⟩
theorem Leads.en{A:List State}{d nx:Nat}{w:GK}{o:Int}(hd:A.getD d Al=((3:Int),(w,((nx:Int),o)))):Leads A enR d nx:=by
 intro s
 refine⟨fun n i j h=>?_,?_⟩
 ·cases h with
  |acc h=>rw[hd]at h;simp at h
  |eps e h=>
   rename_i k q'
   unfold Fw at e
   rw[hd]at e
   rcases e with⟨e,_⟩|⟨e,_⟩|⟨_,e,e2⟩
   ·simp at e
   ·simp at e
   ·have:q'=nx:=by simpa using e2
    subst this
    have e:i=s.length:=by simpa using e
    exact⟨i,k,by omega,⟨e,e⟩,h⟩
  |read hi r h=>
   obtain⟨r1,r2,r3⟩:=r
   rw[hd]at r1;simp at r1
 ·rintro i m j n ⟨rfl,rfl⟩ h
  exact⟨_,.eps (.inr (.inr ⟨by rw[hd],by simp,by rw[hd];simp⟩)) h⟩
theorem Ll{R:B3}{a b:Nat}{s:List UInt8}{i j:Nat}:OP R (a+b) s i j↔∃m,OP R a s i m∧OP R b s m j:=by
 induction a generalizing i with
 |zero=>
  rw[Nat.zero_add]
  exact⟨fun h=>⟨i,rfl,h⟩,fun⟨m,h1,h2⟩=>by cases h1;exact h2⟩
 |succ a ih=>
  rw[show a+1+b=(a+b)+1 by omega]
  constructor
  ·rintro⟨m,h1,h2⟩
   obtain⟨m2,h3,h4⟩:=ih.1 h2
   exact⟨m2,⟨m,h1,h3⟩,h4⟩
  ·rintro⟨m2,⟨m,h1,h3⟩,h4⟩
   exact⟨m,h1,ih.2 ⟨m2,h3,h4⟩⟩
theorem Xd{a:Auto}{s:List UInt8}{i j:Nat}:acc a s i j↔∃n,ToN a.1 s n a.2.toNat i j:=by
 constructor
 ·rintro⟨q,h,hq⟩
  have:∀{j q:Nat},On a s i j q→∀{n j':Nat},ToN a.1 s n q j j'→∃n',ToN a.1 s n' a.2.toNat i j':=by
   intro j q h
   induction h with
   |start=>exact fun h=>⟨_,h⟩
   |eps _ e ih=>exact fun h=>ih (.eps e h)
   |read _ hj r ih=>exact fun h=>ih (.read hj r h)
  exact this h (.acc hq)
 ·rintro⟨n,h⟩
  have:∀{n q j j':Nat},ToN a.1 s n q j j'→On a s i j q→acc a s i j':=by
   intro n q j j' h
   induction h with
   |acc h=>exact fun ho=>⟨_,ho,h⟩
   |eps e _ ih=>exact fun ho=>ih (.eps ho e)
   |read hi r _ ih=>exact fun ho=>ih (.read ho hi r)
  exact this h .start
end Go.VS
