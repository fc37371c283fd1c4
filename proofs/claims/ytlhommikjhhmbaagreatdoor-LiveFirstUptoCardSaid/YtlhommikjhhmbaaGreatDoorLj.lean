/- Part Lj. -/
import Derived.Test.YtlhommikjhhmbaaGreatDoorLi
set_option linter.unusedVariables false
set_option linter.unusedSimpArgs false
set_option linter.unusedSectionVars false
namespace Go.Px
noncomputable section
set_option maxRecDepth 100000
set_option maxHeartbeats 4000000
set_option synthInstance.maxHeartbeats 4000000
set_option synthInstance.maxSize 100000
instance (x):TW (q6d x):=⟨_,λa e=>by rw[zfL,<- e]⟩
instance(x):TW (qaq x):=by delta qaq qh9 q8n;infer_instance
instance(x):TW (q7v x):=by delta q7v qd9;infer_instance
instance(x):TW (qcf x):=by delta qcf qeg qh5;infer_instance
instance(x):TW (q2i x):=by delta q2i qeh;infer_instance
instance(x):TW (q70 x):=by delta q70 qhm;infer_instance
instance(x):TW (qc1 x):=by delta qc1 qfv;infer_instance
instance(x):TW (qb9 x):=by delta qb9 qda qfy;infer_instance
instance(x):TW (q91 x):=by delta q91 qbt;infer_instance
instance(x):TW (qap x):=by delta qap qha;infer_instance
instance(x):TW (q5x x):=by delta q5x q8r;infer_instance
instance(x):TW (qah x):=by delta qah qcp qfb;infer_instance
instance(x):TW (q3b x):=by delta q3b qdq;infer_instance
instance(x):TW (q2v x):=by delta q2v q86 q1r;infer_instance
instance(x):TW (q4x x):=by delta q4x qbm;infer_instance
instance(x):TW (qar x):=by delta qar qew;infer_instance
instance(x):TW (q5o x):=by delta q5o qc2 q9c;infer_instance
instance(x):TW (q6o x):=by delta q6o qc3 q9d q9e;infer_instance
instance(x):TW (q8h x):=by delta q8h qdr;infer_instance
instance(x):TW (q7e x):=by delta q7e qcq;infer_instance
instance(x):TW (q75 x):=by delta q75 qex qd7;infer_instance
instance(x):TW (qbc x):=by delta qbc qgm;infer_instance
instance(x):TW (qbe x):=by delta qbe qhn;infer_instance
instance(x):TW (qd0 x):=by delta qd0 qes qc4;infer_instance
instance(x):TW (q5p x):=by delta q5p qds;infer_instance
instance(x):TW (q84 x):=by delta q84 qey;infer_instance
instance(x):TW (q9f x):=by delta q9f qfr;infer_instance
instance(x):TW (qd1 x):=by delta qd1 qet qc5;infer_instance
instance(x):TW (q5q x):=by delta q5q qdt;infer_instance
instance(x):TW (qc6 x):=by delta qc6 qhb qe6;infer_instance
instance(x):TW (q7p x):=by delta q7p qgn qd8;infer_instance
instance (x):TW (q2s x):=⟨_,λa e=>by rw[zdW,<- e]⟩
instance(x):TW (q1h x):=by delta q1h q9z q7f;infer_instance
instance(x):TW (q1a x):=by delta q1a qdb q5y;infer_instance
instance(x):TW (q1f x):=by delta q1f qbu q51;infer_instance
instance(x):TW (q1e x):=by delta q1e q8s;infer_instance
instance(x):TW (q4j x):=by delta q4j qb1 q6f q56 qb0 q6g q4d;repeat(first | (with_reducible(first | refine TWb ?_ λ_=>?_|refine TWi ?_ ?_|refine TWe (λ_=>?_) λ_=>?_))|infer_instance)
instance(x):TW (q38 x):=by delta q38 q8t q5d;infer_instance
instance(x):TW (q2d x):=by delta q2d qa0;infer_instance
instance(x):TW (q4k x):=by delta q4k qb2 q6h q6i q6j;infer_instance
instance(x):TW (q2y x):=by delta q2y qa1 q5z;infer_instance
instance(x):TW (q3f x):=by delta q3f q7x q4u;infer_instance
instance(x):TW (q3k x):=by delta q3k qdc;infer_instance
instance(x):TW (q29 x):=by delta q29 qbv;infer_instance
instance(x):TW (q82 x):=by delta q82 qeu;infer_instance
instance(x):TW (qcg x):=by delta qcg qei q6u;infer_instance
instance(x):TW (q1s x):=by delta q1s qfw;infer_instance
instance(x):TW (q3l x):=by delta q3l qa2 q4q;infer_instance
instance(x):TW (q16 x):=by delta q16 qbw;infer_instance
instance(x):TW (q4r x):=by delta q4r q8w;infer_instance
instance(x):TW (q5h x):=by delta q5h qbx;infer_instance
instance(x):TW (q8o x):=by delta q8o qcx q83;infer_instance
instance(x):TW (q1k x):=by delta q1k qb4;infer_instance
instance(x):TW (q6k x):=by delta q6k qa3 q7g;infer_instance
instance(x):TW (q26 x):=by delta q26 qa4;infer_instance
instance(x):TW (q2e x):=by delta q2e qa5;infer_instance
instance(x):TW (q3c x):=by delta q3c qb5;infer_instance
instance(x):TW (q52 x):=by delta q52 qbh;infer_instance
instance(x):TW (q46 x):=by delta q46 qc7 q7h;infer_instance
instance(x):TW (q25 x):=by delta q25 q8a q6n;infer_instance
instance{h}[∀x,TW (h x)](x):TW (q5l h x):=by delta q5l q72 q5i q2a;infer_instance
instance(k x):TW (q2n k x):=twk (λh t x=>inferInstance) (λ_=>rfl) (λ_ _=>rfl) k x
instance(x):TW (q44 x):=by delta q44;infer_instance
instance(x):TW (q7w x):=by delta q7w qfs;infer_instance
instance(x):TW (qbd x):=by delta qbd qhz;infer_instance
instance(x):TW (q39 x):=by delta q39 qhc;infer_instance
instance(x):TW (qco x):=by delta qco qi0 qeq;infer_instance
instance(x):TW (q2w x):=by delta q2w qcv;infer_instance
instance(x):TW (q77 x):=by delta q77 qcw;infer_instance
instance{h}[∀x,TW (h x)](x):TW (q2q h x):=by delta q2q q57;infer_instance
instance{h}[∀x,TW (h x)](x):TW (q28 h x):=by delta q28 q64;infer_instance
instance{h}[∀x,TW (h x)](x):TW (q6y h x):=by delta q6y q8m q8i;infer_instance
instance(k x):TW (q2u k x):=twk (λh t x=>inferInstance) (λ_=>rfl) (λ_ _=>rfl) k x
instance(x):TW (q9g x):=by delta q9g;infer_instance
instance(x):TW (q5b x):=by delta q5b qft qe3;infer_instance
instance(x):TW (q3w x):=by delta q3w qba;infer_instance
instance(x):TW (q6v x):=by delta q6v qdu;infer_instance
instance(x):TW (q61 x):=by delta q61 qcr;infer_instance
instance(x):TW (q85 x):=by delta q85 qez q7i q7j;infer_instance
instance(x):TW (q1b x):=by delta q1b qab;infer_instance
instance(x):TW (q4e x):=by delta q4e qac q62;infer_instance
instance(x):TW (q4f x):=by delta q4f qad q63;infer_instance
instance(x):TW (q2o x):=by delta q2o q8b q53;infer_instance
instance(x):TW (q58 x):=by delta q58 qa6;infer_instance
instance(x):TW (q1p x):=by delta q1p qa7;infer_instance
instance(x):TW (q3m x):=by delta q3m qa8 q7k;infer_instance
instance(x):TW (q2z x):=by delta q2z qa9 q4s;infer_instance
instance(x):TW (q3n x):=by delta q3n qaa;infer_instance
instance(x):TW (q30 x):=by delta q30 q8c q49;infer_instance
instance(x):TW (q1l x):=by delta q1l q31 q59;infer_instance
instance{h}[∀x,TW (h x)](x):TW (q5m h x):=by delta q5m q73 q5j q3r;infer_instance
instance(k x):TW (q32 k x):=twk (λh t x=>inferInstance) (λ_=>rfl) (λ_ _=>rfl) k x
instance(x):TW (q4t x):=by delta q4t;infer_instance
instance(x):TW (q23 x):=by delta q23 qej;infer_instance
instance(x):TW (q60 x):=by delta q60 qcs q71;infer_instance
instance(x):TW (q6t x):=by delta q6t qb3;infer_instance
instance(x):TW (q27 x):=by delta q27 q8u;infer_instance
instance{h}[∀x,TW (h x)](x):TW (q5n h x):=by delta q5n q74 q5e q5f q3q;infer_instance
instance(k x):TW (q2m k x):=twk (λh t x=>inferInstance) (λ_=>rfl) (λ_ _=>rfl) k x
instance(x):TW (q4p x):=by delta q4p;infer_instance
instance(x):TW (q2j x):=by delta q2j q8v q5g;infer_instance
instance(x):TW (q45 x):=by delta q45 q8x q3s q3t;infer_instance
instance(x):TW (q3u x):=by delta q3u q8d q54;infer_instance
instance(x):TW (q2t x):=by delta q2t q8y q5k;infer_instance
instance(x):TW (q1u x):=by delta q1u qbn;infer_instance
instance(x):TW (q1o x):=by delta q1o qc8;infer_instance
instance(x):TW (qat x):=by delta qat qcd;infer_instance
instance(x):TW (q1g x):=by delta q1g q3h;infer_instance
instance(x):TW (q2g x):=by delta q2g qcc;infer_instance
instance(x):TW (q22 x):=by delta q22 qcb;infer_instance
instance(x):TW (q8l x):=by delta q8l qb6 q6l;infer_instance
instance(x):TW (q7m x):=by delta q7m q90;infer_instance
instance(x):TW (q1c x):=by delta q1c qcz;infer_instance
instance(x):TW (q7l x):=by delta q7l q8z q4i;infer_instance
instance(x):TW (qbf x):=by delta qbf qcy;infer_instance
instance(x):TW (q1q x):=by delta q1q qag;infer_instance
instance(x):TW (q1v x):=by delta q1v qbo;infer_instance
instance(x):TW (q9h x):=by delta q9h qfu qby;infer_instance
instance(x):TW (q1j x):=by delta q1j qbp q6w;infer_instance
instance(x):TW (q47 x):=by delta q47 qce q4y q68 q4z;repeat(first | (with_reducible(first | refine TWb ?_ λ_=>?_|refine TWi ?_ ?_|refine TWe (λ_=>?_) λ_=>?_))|infer_instance)
instance(x):TW (q3v x):=by delta q3v qbq q4m q3d;infer_instance
instance(x):TW (q7q x):=by delta q7q qgo q9k q9l;infer_instance
instance(x):TW (q3a x):=by delta q3a qct;repeat(first | (with_reducible(first | refine TWb ?_ λ_=>?_|refine TWi ?_ ?_|refine TWe (λ_=>?_) λ_=>?_))|infer_instance)
theorem zuH:q3a ()=some true:=TW.run inferInstance jO
end
theorem zuI x:zfH.F x=some true:=by rw[←qhu];exact zsk zuH x
end Go.Px
