/- Part Lj. -/
import Derived.Test.YtdmfcbmibjojpaaGreatDoorLi
set_option linter.unusedVariables false
set_option linter.unusedSimpArgs false
namespace Go.Px
noncomputable section
set_option maxRecDepth 100000
set_option maxHeartbeats 4000000
set_option synthInstance.maxHeartbeats 4000000
set_option synthInstance.maxSize 100000
instance (x):TW (q5y x):=⟨_,λa e=>by rw[zfy,<- e]⟩
instance(x):TW (qa1 x):=by delta qa1 qg3 q83;infer_instance
instance(x):TW (q7f x):=by delta q7f qch;infer_instance
instance(x):TW (qbm x):=by delta qbm qdd qfz;infer_instance
instance(x):TW (q2a x):=by delta q2a qde;infer_instance
instance(x):TW (q6k x):=by delta q6k qgd;infer_instance
instance(x):TW (qba x):=by delta qba qep;infer_instance
instance(x):TW (qah x):=by delta qah qci qet;infer_instance
instance(x):TW (q8h x):=by delta q8h qb2;infer_instance
instance(x):TW (qa0 x):=by delta qa0 qg4;infer_instance
instance(x):TW (q5l x):=by delta q5l q87;infer_instance
instance(x):TW (q9s x):=by delta q9s qbx qe7;infer_instance
instance(x):TW (q37 x):=by delta q37 qcw;infer_instance
instance(x):TW (q2p x):=by delta q2p q7o q1m;infer_instance
instance(x):TW (q4o x):=by delta q4o qau;infer_instance
instance(x):TW (qa2 x):=by delta qa2 qds;infer_instance
instance(x):TW (q5f x):=by delta q5f qbb q8s;infer_instance
instance(x):TW (q69 x):=by delta q69 qbc q8t q8u;infer_instance
instance(x):TW (q7z x):=by delta q7z qcx;infer_instance
instance(x):TW (q6z x):=by delta q6z qby;infer_instance
instance(x):TW (q6q x):=by delta q6q qdt qcf;infer_instance
instance(x):TW (qak x):=by delta qak qfh;infer_instance
instance(x):TW (qam x):=by delta qam qge;infer_instance
instance(x):TW (qc8 x):=by delta qc8 qdo qbd;infer_instance
instance(x):TW (q5h x):=by delta q5h qcy;infer_instance
instance(x):TW (q7m x):=by delta q7m qdu;infer_instance
instance(x):TW (q8v x):=by delta q8v qel;infer_instance
instance(x):TW (qc9 x):=by delta qc9 qdp qbe;infer_instance
instance(x):TW (q5i x):=by delta q5i qcz;infer_instance
instance(x):TW (qbf x):=by delta qbf qg5 qda;infer_instance
instance(x):TW (q7a x):=by delta q7a qfi qcg;infer_instance
instance (x):TW (q2m x):=⟨_,λa e=>by rw[zdL,<- e]⟩
instance(x):TW (q1f x):=by delta q1f q9c q70;infer_instance
instance(x):TW (q1a x):=by delta q1a qcj q5m;infer_instance
instance(x):TW (q1e x):=by delta q1e qb3 q4s;infer_instance
instance(x):TW (q4b x):=by delta q4b qab q60 q4x qaa q61 q45;infer_instance
instance(x):TW (q35 x):=by delta q35 q89 q54;infer_instance
instance(x):TW (q24 x):=by delta q24 q9d;infer_instance
instance(x):TW (q4c x):=by delta q4c qac q62 q63 q64;infer_instance
instance(x):TW (q2s x):=by delta q2s q9e q5n;infer_instance
instance(x):TW (q3a x):=by delta q3a q7h q4k;infer_instance
instance(x):TW (q3d x):=by delta q3d qck;infer_instance
instance(x):TW (q21 x):=by delta q21 qb4;infer_instance
instance(x):TW (q7k x):=by delta q7k qdq;infer_instance
instance(x):TW (qbn x):=by delta qbn qdf q6f;infer_instance
instance(x):TW (q2k x):=by delta q2k qeq;infer_instance
instance(x):TW (q3e x):=by delta q3e q9f q4g;infer_instance
instance(x):TW (q16 x):=by delta q16 qb5;infer_instance
instance(x):TW (q4h x):=by delta q4h q8c;infer_instance
instance(x):TW (q58 x):=by delta q58 qb6;infer_instance
instance(x):TW (q84 x):=by delta q84 qc5 q7l;infer_instance
instance(x):TW (q1h x):=by delta q1h qae;infer_instance
instance(x):TW (q65 x):=by delta q65 q9g q71;infer_instance
instance(x):TW (q1x x):=by delta q1x q9h;infer_instance
instance(x):TW (q25 x):=by delta q25 q9i;infer_instance
instance(x):TW (q38 x):=by delta q38 qaf;infer_instance
instance(x):TW (q4t x):=by delta q4t qap;infer_instance
instance(x):TW (q3y x):=by delta q3y qbg q72;infer_instance
instance(x):TW (q1w x):=by delta q1w q7s q68;infer_instance
instance{h}[∀x,TW (h x)](x):TW (q5c h x):=by delta q5c q6n q59 q22;infer_instance
instance(k x):TW (q2g k x):=twk (λh t x=>inferInstance) (λ_=>rfl) (λ_ _=>rfl) k x
instance(x):TW (q3w x):=by delta q3w;infer_instance
instance(x):TW (q7g x):=by delta q7g qem;infer_instance
instance(x):TW (qal x):=by delta qal qgo;infer_instance
instance(x):TW (q36 x):=by delta q36 qg6;infer_instance
instance(x):TW (qbw x):=by delta qbw qgp qdn;infer_instance
instance(x):TW (q2q x):=by delta q2q qc3;infer_instance
instance(x):TW (q6s x):=by delta q6s qc4;infer_instance
instance{h}[∀x,TW (h x)](x):TW (q2j h x):=by delta q2j q4y;infer_instance
instance{h}[∀x,TW (h x)](x):TW (q20 h x):=by delta q20 q5s;infer_instance
instance{h}[∀x,TW (h x)](x):TW (q6i h x):=by delta q6i q82 q80;infer_instance
instance(k x):TW (q2o k x):=twk (λh t x=>inferInstance) (λ_=>rfl) (λ_ _=>rfl) k x
instance(x):TW (q8w x):=by delta q8w;infer_instance
instance(x):TW (q52 x):=by delta q52 qen qd7;infer_instance
instance(x):TW (q3q x):=by delta q3q qai;infer_instance
instance(x):TW (q6g x):=by delta q6g qd0;infer_instance
instance(x):TW (q5p x):=by delta q5p qbz;infer_instance
instance(x):TW (q7n x):=by delta q7n qdv q73 q74;infer_instance
instance(x):TW (q1b x):=by delta q1b q9o;infer_instance
instance(x):TW (q46 x):=by delta q46 q9p q5q;infer_instance
instance(x):TW (q47 x):=by delta q47 q9q q5r;infer_instance
instance(x):TW (q2h x):=by delta q2h q7t q4u;infer_instance
instance(x):TW (q4z x):=by delta q4z q9j;infer_instance
instance(x):TW (q1l x):=by delta q1l q9k;infer_instance
instance(x):TW (q3f x):=by delta q3f q9l q75;infer_instance
instance(x):TW (q2t x):=by delta q2t q9m q4i;infer_instance
instance(x):TW (q3g x):=by delta q3g q9n;infer_instance
instance(x):TW (q2u x):=by delta q2u q7u q42;infer_instance
instance(x):TW (q1i x):=by delta q1i q2v q50;infer_instance
instance{h}[∀x,TW (h x)](x):TW (q5d h x):=by delta q5d q6o q5a q3k;infer_instance
instance(k x):TW (q2w k x):=twk (λh t x=>inferInstance) (λ_=>rfl) (λ_ _=>rfl) k x
instance(x):TW (q4j x):=by delta q4j;infer_instance
instance(x):TW (q1v x):=by delta q1v qdg;infer_instance
instance(x):TW (q5o x):=by delta q5o qc0 q6l;infer_instance
instance(x):TW (q6e x):=by delta q6e qad;infer_instance
instance(x):TW (q1y x):=by delta q1y q8a;infer_instance
instance{h}[∀x,TW (h x)](x):TW (q5e h x):=by delta q5e q6p q55 q56 q3j;infer_instance
instance(k x):TW (q2f k x):=twk (λh t x=>inferInstance) (λ_=>rfl) (λ_ _=>rfl) k x
instance(x):TW (q4f x):=by delta q4f;infer_instance
instance(x):TW (q2b x):=by delta q2b q8b q57;infer_instance
instance(x):TW (q3x x):=by delta q3x q8d q3l q3m;infer_instance
instance(x):TW (q3n x):=by delta q3n q7v q4v;infer_instance
instance(x):TW (q2c x):=by delta q2c q8e q5b;infer_instance
instance(x):TW (q3o x):=by delta q3o qav;infer_instance
instance(x):TW (q3z x):=by delta q3z qbk;infer_instance
instance(x):TW (qa3 x):=by delta qa3 qbj;infer_instance
instance(x):TW (q27 x):=by delta q27 q5g;infer_instance
instance(x):TW (q28 x):=by delta q28 qbi;infer_instance
instance(x):TW (q1u x):=by delta q1u qbh;infer_instance
instance(x):TW (q81 x):=by delta q81 qag q66;infer_instance
instance(x):TW (q77 x):=by delta q77 q8g;infer_instance
instance(x):TW (q1z x):=by delta q1z qc7;infer_instance
instance(x):TW (q76 x):=by delta q76 q8f q4a;infer_instance
instance(x):TW (qan x):=by delta qan qc6;infer_instance
instance(x):TW (q2x x):=by delta q2x q9r;infer_instance
instance(x):TW (q31 x):=by delta q31 qaw;infer_instance
instance(x):TW (q8x x):=by delta q8x qeo qb7;infer_instance
instance(x):TW (q32 x):=by delta q32 qax q6h;infer_instance
instance(x):TW (q40 x):=by delta q40 qbl q4q q5t q4p;repeat(first | (with_reducible(first | refine TWb ?_ λ_=>?_|refine TWi ?_ ?_|refine TWe (λ_=>?_) λ_=>?_))|infer_instance)
instance(x):TW (q3p x):=by delta q3p qay q4d q39;infer_instance
instance(x):TW (q6m x):=by delta q6m qfj q8y q8z;infer_instance
instance(x):TW (q2n x):=by delta q2n qc1;repeat(first | (with_reducible(first | refine TWb ?_ λ_=>?_|refine TWi ?_ ?_|refine TWe (λ_=>?_) λ_=>?_))|infer_instance)
theorem zuO:q2n ()=some true:=TW.run inferInstance (by kernel_rfl)
end
theorem zzR x:zfu.F x=some true:=by rw[←qgv];exact zye zuO x
end Go.Px
